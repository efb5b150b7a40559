-- Written by this session's own program (wip/tools/myprint.py), which runs the kit's print with turns of its own: not a text of the kit's print.sh.
import Derived.Test.YtdndhbfagoghfaaPx0
import Derived.Test.YtdndhbfagoghfaaPx43
namespace Go.Proofs.Ytdndhbfagoghfaa.P
open Go.RowKit Go.Proofs.YtdndhbfagoghfaaW.PrintWords Go.Proofs.YtdndhbfagoghfaaW.PrintLast Go.Proofs.YtdndhbfagoghfaaW.PrintMore
open List renaming setIfInBounds_toArray → sA, set_cons_zero → sZ, set_cons_succ → sS
open Bool renaming true → T', false → F'
open Go.Proofs.YtdndhbfagoghfaaW.PrintWords renaming below_alloc → zA, pw_below_drewN → zN, below_drew1 → zD, blk_drewN → yN, blk_drew → yD, blk_alloc → yA, below_size → zS, below_step → zT, blk_below → yB, below_set → zP, cell_far → xF, add_block → xB, gate_callee → xC, gate_dst → xD
attribute [local go_sem] max2_int min2_int max_two min_two max_three min_three max_four min_four   -- for this text's walks alone
set_option linter.unusedVariables false
set_option linter.unusedSimpArgs false

/-! ### transport_read: function 37 -/
theorem nE38 {w : World} {p : Addr} {v : Value} {g : Nat} (h : w.cell? p = some v) (hg : w.heap.size ≤ g) : p.block ≠ g := Nat.ne_of_lt (Nat.lt_of_lt_of_le (World.block_lt_of_cell? _ _ h) hg)
theorem nF38 {w : World} {p : Addr} {i : Nat} {v : Value} {g : Nat} (h : w.cell? (p.add i) = some v) (hg : w.heap.size ≤ g) : p.block ≠ g := Nat.ne_of_lt (Nat.lt_of_lt_of_le (by have := World.block_lt_of_cell? _ _ h; rwa [xB] at this) hg)
def transport_read.f (l0 : List Int) : Option (Int × Int × Bool × Int × List Int) := if 1 < (l0.length : Int) then (if 2 < (l0.length : Int) then (if 3 < (l0.length : Int) then (if ((rd l0 3) / 16) = 1 then (if 4 ≤ 188 then (if 188 ≤ (l0.length : Int) then ((slices_Clone_byte_byte.f ((l0.take 188).drop 4)).bind fun t258 => (some (Go.bits .or .i64 (wrap64 ((wrap64 (Go.bits .and .u8 (rd l0 1) 31)) * 256)) (wrap64 (rd l0 2)), wrap64 (Go.bits .and .u8 (rd l0 3) 15), ((Go.bits .and .u8 (rd l0 1) 64) != 0), (-1), t258))) else (none)) else (none)) else (if 4 < (l0.length : Int) then (if (wrap64 (rd l0 4)) ≥ 7 then (if 5 < (l0.length : Int) then (if (rd l0 5) = 16 then (if 6 < (l0.length : Int) then (if 7 < (l0.length : Int) then (if 8 < (l0.length : Int) then (if 9 < (l0.length : Int) then (if 10 < (l0.length : Int) then (if 11 < (l0.length : Int) then (if 0 ≤ (mn (wrap64 (5 + (wrap64 (rd l0 4)))) 188) then (if (mn (wrap64 (5 + (wrap64 (rd l0 4)))) 188) ≤ 188 then (if 188 ≤ (l0.length : Int) then ((slices_Clone_byte_byte.f ((l0.take 188).drop ((mn (wrap64 (5 + (wrap64 (rd l0 4)))) 188) : Int).toNat)).bind fun t271 => (some (Go.bits .or .i64 (wrap64 ((wrap64 (Go.bits .and .u8 (rd l0 1) 31)) * 256)) (wrap64 (rd l0 2)), wrap64 (Go.bits .and .u8 (rd l0 3) 15), ((Go.bits .and .u8 (rd l0 1) 64) != 0), wrap64 ((wrap64 ((wrap64 ((Go.bits .or .i64 (Go.bits .or .i64 (Go.bits .or .i64 (Go.bits .or .i64 (wrap64 ((wrap64 (rd l0 6)) * 33554432)) (wrap64 ((wrap64 (rd l0 7)) * 131072))) (wrap64 ((wrap64 (rd l0 8)) * 512))) (wrap64 ((wrap64 (rd l0 9)) * 2))) (wrap64 ((rd l0 10) / 128))) * 300)) + (wrap64 ((wrap64 (Go.bits .and .u8 (rd l0 10) 1)) * 256)))) + (wrap64 (rd l0 11))), t271))) else (none)) else (none)) else (none)) else (none)) else (none)) else (none)) else (none)) else (none)) else (none)) else (if 0 ≤ (mn (wrap64 (5 + (wrap64 (rd l0 4)))) 188) then (if (mn (wrap64 (5 + (wrap64 (rd l0 4)))) 188) ≤ 188 then (if 188 ≤ (l0.length : Int) then ((slices_Clone_byte_byte.f ((l0.take 188).drop ((mn (wrap64 (5 + (wrap64 (rd l0 4)))) 188) : Int).toNat)).bind fun t275 => (some (Go.bits .or .i64 (wrap64 ((wrap64 (Go.bits .and .u8 (rd l0 1) 31)) * 256)) (wrap64 (rd l0 2)), wrap64 (Go.bits .and .u8 (rd l0 3) 15), ((Go.bits .and .u8 (rd l0 1) 64) != 0), (-1), t275))) else (none)) else (none)) else (none))) else (none)) else (if 0 ≤ (mn (wrap64 (5 + (wrap64 (rd l0 4)))) 188) then (if (mn (wrap64 (5 + (wrap64 (rd l0 4)))) 188) ≤ 188 then (if 188 ≤ (l0.length : Int) then ((slices_Clone_byte_byte.f ((l0.take 188).drop ((mn (wrap64 (5 + (wrap64 (rd l0 4)))) 188) : Int).toNat)).bind fun t279 => (some (Go.bits .or .i64 (wrap64 ((wrap64 (Go.bits .and .u8 (rd l0 1) 31)) * 256)) (wrap64 (rd l0 2)), wrap64 (Go.bits .and .u8 (rd l0 3) 15), ((Go.bits .and .u8 (rd l0 1) 64) != 0), (-1), t279))) else (none)) else (none)) else (none))) else (none))) else (none)) else (none)) else (none)
def transport_read.T1 : Bool × List (List Nat × List Nat) := (true, [([], []), ([0], [0]), ([1], [1]), ([2], [2]), ([3], [3]), ([4], [4]), ([], []), ([6], [6]), ([7], [7]), ([8], [8]), ([5, 9], [5, 9]), ([], []), ([11], [11]), ([12], [12]), ([13], [13]), ([14], [14]), ([], []), ([16], [16]), ([17], [17]), ([18], [18]), ([19], [19]), ([10, 15, 20], [10, 15, 20]), ([], []), ([22, 21, 0, 1, 2, 3, 4, 5, 6, 7, 8, 9, 10, 11, 12, 13, 14, 15, 16, 17, 18, 19, 20, 21, 22], [21, 22])])
def transport_read.B1 : List Nat := [0, 1, 3, 7, 15, 31, 0, 64, 192, 448, 1023, 0, 2048, 6144, 14336, 30720, 0, 65536, 196608, 458752, 983040, 2097151, 0, 8388607]
theorem transport_read.tab1 : rtab .any (opsOf Try.f37 1) = transport_read.T1 := by kernel_rfl
theorem transport_read.bits1 : waitsOk transport_read.T1.2 transport_read.B1 = true := by kernel_rfl
def transport_read.T6 : Bool × List (List Nat × List Nat) := (true, [([], []), ([0], [0]), ([1], [1]), ([2], [2]), ([3], [3]), ([], []), ([5], [5]), ([6], [6]), ([7], [7]), ([8], [8]), ([4, 9], [4, 9]), ([], []), ([11], [11]), ([12], [12]), ([13], [13]), ([14], [14]), ([10, 15], [10, 15]), ([], []), ([17], [17]), ([18], [18]), ([19], [19]), ([20], [20]), ([16, 21], [16, 21]), ([], []), ([23], [23]), ([24], [24]), ([25], [25]), ([26], [26]), ([22, 27], [22, 27]), ([28, 0, 1, 2, 3, 4, 5, 6, 7, 8, 9, 10, 11, 12, 13, 14, 15, 16, 17, 18, 19, 20, 21, 22, 23, 24, 25, 26, 27, 28], [28])])
def transport_read.B6 : List Nat := [0, 1, 3, 7, 15, 0, 32, 96, 224, 480, 1023, 0, 2048, 6144, 14336, 30720, 65535, 0, 131072, 393216, 917504, 1966080, 4194303, 0, 8388608, 25165824, 58720256, 125829120, 268435455, 536870911]
theorem transport_read.tab6 : rtab .any (opsOf Try.f37 6) = transport_read.T6 := by kernel_rfl
theorem transport_read.bits6 : waitsOk transport_read.T6.2 transport_read.B6 = true := by kernel_rfl
def transport_read.T7 : Bool × List (List Nat × List Nat) := (true, [([], []), ([0], [0]), ([], []), ([2], [2]), ([3], [3]), ([4], [4]), ([5], [5]), ([6], [6]), ([1, 7], [1, 7]), ([], []), ([9], [9]), ([10], [10]), ([11], [11]), ([8, 12], [8, 12]), ([0, 1, 2, 3, 4, 5, 6, 7, 8, 9, 10, 11, 12, 13], []), ([14, 13, 0, 1, 2, 3, 4, 5, 6, 7, 8, 9, 10, 11, 12, 13], [13, 14])])
def transport_read.B7 : List Nat := [0, 1, 0, 4, 12, 28, 60, 124, 255, 0, 512, 1536, 3584, 8191, 16383, 32767]
theorem transport_read.tab7 : rtab .any (opsOf Try.f37 7) = transport_read.T7 := by kernel_rfl
theorem transport_read.bits7 : waitsOk transport_read.T7.2 transport_read.B7 = true := by kernel_rfl
set_option maxHeartbeats 8000000 in
set_option maxRecDepth 100000 in
theorem transport_read.calls (A0 : Option Addr) (c0 : Nat) (l0 : List Int) (r1 : Int) (r2 : Int) (r3 : Bool) (r4 : Int) (r5 : List Int) (w : World) (hr0 : Kd.C (Kd.int .u8) w A0 l0.length l0) (hc0 : l0.length ≤ c0) (h : transport_read.f l0 = some (r1, r2, r3, r4, r5)) :
  Calls Try.prog 37 #[.slice A0 l0.length c0] w fun e w' => ∃ v4_ : Value, e = .returned (.agg #[.int .i64 r1, .int .i64 r2, .bool r3, .int .i64 r4, v4_]) ∧ Kd.R (Kd.int .u8) 5 w' w.heap.size (fun _ => True) v4_ r5 ∧ Below w.heap.size w w' := by
 have hu28 := Try.underlying28
 have HR0 := Aside0.mk hr0
 have HC0 := Aside0.mk hc0
 clear hr0 hc0
 have HB := Aside0.mk (Below.refl w.heap.size w)
 have H : (if 1 < (l0.length : Int) then (if 2 < (l0.length : Int) then (if 3 < (l0.length : Int) then (if ((rd l0 3) / 16) = 1 then (if 4 ≤ 188 then (if 188 ≤ (l0.length : Int) then ((slices_Clone_byte_byte.f ((l0.take 188).drop 4)).bind fun t258 => (some (Go.bits .or .i64 (wrap64 ((wrap64 (Go.bits .and .u8 (rd l0 1) 31)) * 256)) (wrap64 (rd l0 2)), wrap64 (Go.bits .and .u8 (rd l0 3) 15), ((Go.bits .and .u8 (rd l0 1) 64) != 0), (-1), t258))) else (none)) else (none)) else (if 4 < (l0.length : Int) then (if (wrap64 (rd l0 4)) ≥ 7 then (if 5 < (l0.length : Int) then (if (rd l0 5) = 16 then (if 6 < (l0.length : Int) then (if 7 < (l0.length : Int) then (if 8 < (l0.length : Int) then (if 9 < (l0.length : Int) then (if 10 < (l0.length : Int) then (if 11 < (l0.length : Int) then (if 0 ≤ (mn (wrap64 (5 + (wrap64 (rd l0 4)))) 188) then (if (mn (wrap64 (5 + (wrap64 (rd l0 4)))) 188) ≤ 188 then (if 188 ≤ (l0.length : Int) then ((slices_Clone_byte_byte.f ((l0.take 188).drop ((mn (wrap64 (5 + (wrap64 (rd l0 4)))) 188) : Int).toNat)).bind fun t271 => (some (Go.bits .or .i64 (wrap64 ((wrap64 (Go.bits .and .u8 (rd l0 1) 31)) * 256)) (wrap64 (rd l0 2)), wrap64 (Go.bits .and .u8 (rd l0 3) 15), ((Go.bits .and .u8 (rd l0 1) 64) != 0), wrap64 ((wrap64 ((wrap64 ((Go.bits .or .i64 (Go.bits .or .i64 (Go.bits .or .i64 (Go.bits .or .i64 (wrap64 ((wrap64 (rd l0 6)) * 33554432)) (wrap64 ((wrap64 (rd l0 7)) * 131072))) (wrap64 ((wrap64 (rd l0 8)) * 512))) (wrap64 ((wrap64 (rd l0 9)) * 2))) (wrap64 ((rd l0 10) / 128))) * 300)) + (wrap64 ((wrap64 (Go.bits .and .u8 (rd l0 10) 1)) * 256)))) + (wrap64 (rd l0 11))), t271))) else (none)) else (none)) else (none)) else (none)) else (none)) else (none)) else (none)) else (none)) else (none)) else (if 0 ≤ (mn (wrap64 (5 + (wrap64 (rd l0 4)))) 188) then (if (mn (wrap64 (5 + (wrap64 (rd l0 4)))) 188) ≤ 188 then (if 188 ≤ (l0.length : Int) then ((slices_Clone_byte_byte.f ((l0.take 188).drop ((mn (wrap64 (5 + (wrap64 (rd l0 4)))) 188) : Int).toNat)).bind fun t275 => (some (Go.bits .or .i64 (wrap64 ((wrap64 (Go.bits .and .u8 (rd l0 1) 31)) * 256)) (wrap64 (rd l0 2)), wrap64 (Go.bits .and .u8 (rd l0 3) 15), ((Go.bits .and .u8 (rd l0 1) 64) != 0), (-1), t275))) else (none)) else (none)) else (none))) else (none)) else (if 0 ≤ (mn (wrap64 (5 + (wrap64 (rd l0 4)))) 188) then (if (mn (wrap64 (5 + (wrap64 (rd l0 4)))) 188) ≤ 188 then (if 188 ≤ (l0.length : Int) then ((slices_Clone_byte_byte.f ((l0.take 188).drop ((mn (wrap64 (5 + (wrap64 (rd l0 4)))) 188) : Int).toNat)).bind fun t279 => (some (Go.bits .or .i64 (wrap64 ((wrap64 (Go.bits .and .u8 (rd l0 1) 31)) * 256)) (wrap64 (rd l0 2)), wrap64 (Go.bits .and .u8 (rd l0 3) 15), ((Go.bits .and .u8 (rd l0 1) 64) != 0), (-1), t279))) else (none)) else (none)) else (none))) else (none))) else (none)) else (none)) else (none)) = some (r1, r2, r3, r4, r5) := h
 clear h
 by_cases c2 : 1 < (l0.length : Int)
 ·rw [if_pos c2] at H
  have c2b0 : decide (1 < (l0.length : Int)) = true := decide_eq_true c2
  have c2b1 : decide (1 < l0.length) = true := decide_eq_true (by omega)
  clear c2
  by_cases c3 : 2 < (l0.length : Int)
  ·rw [if_pos c3] at H
   have c3b0 : decide (2 < (l0.length : Int)) = true := decide_eq_true c3
   have c3b1 : decide (2 < l0.length) = true := decide_eq_true (by omega)
   clear c3
   by_cases c4 : 3 < (l0.length : Int)
   ·rw [if_pos c4] at H
    have c4b0 : decide (3 < (l0.length : Int)) = true := decide_eq_true c4
    have c4b1 : decide (3 < l0.length) = true := decide_eq_true (by omega)
    clear c4
    by_cases c5 : ((rd l0 3) / 16) = 1
    ·rw [if_pos c5] at H
     have c5b0 : (((rd l0 3) / 16) == 1) = true := beq_iff_eq.mpr c5
     have c5b1 : (((rd l0 3) / 16) != 1) = false := bne_eq_false_iff_eq.mpr c5
     clear c5
     by_cases c6 : 4 ≤ 188
     ·rw [if_pos c6] at H
      have c6b0 := eq_true c6
      have c6b1 : decide (4 ≤ 188) = true := decide_eq_true c6
      clear c6
      by_cases c7 : 188 ≤ (l0.length : Int)
      ·rw [if_pos c7] at H
       have c7b0 := eq_true c7
       have c7b1 : decide (188 ≤ (l0.length : Int)) = true := decide_eq_true c7
       clear c7
       replace H := Option.bind_eq_some_iff.mp H
       obtain ⟨t258, A80, H⟩ := H
       replace H : (some (Go.bits .or .i64 (wrap64 ((wrap64 (Go.bits .and .u8 (rd l0 1) 31)) * 256)) (wrap64 (rd l0 2)), wrap64 (Go.bits .and .u8 (rd l0 3) 15), ((Go.bits .and .u8 (rd l0 1) 64) != 0), (-1), t258)) = some (r1, r2, r3, r4, r5) := H
       have A8 := Aside0.mk A80
       clear A80
       simp only [Option.some.injEq, Prod.mk.injEq] at H
       obtain ⟨rfl, rfl, rfl, rfl, rfl⟩ := H
       go_enter Try.func37, Try.ntmps37
       try go_wp2_with (first | ((with_reducible refine xD (N := 2) rfl ?_); refine box_event ?hg (N := 2) ?hd (cs := #[.int .i64 0, .int .i64 0, .bool false, .int .i64 0, .slice none 0 0]) (t := 28) ?hr ?_; (case hd => rfl); (case hg => rfl); (case hr => first | (go_simp; done) | (go_simp; rfl)); intro gb250 hg w9 hbox hb; have n0_ := Aside0.mk (zT (by repeat (first | (with_reducible first | exact HB.out | apply zA | apply zN | apply zD) | exact HB.out)) hb); have n1_ := Aside0.mk (hbox); have n2_ := Aside0.mk ((by rw [hg]; exact (zS (by repeat (first | (with_reducible first | exact HB.out | apply zA | apply zN | apply zD) | exact HB.out))) : w.heap.size ≤ gb250)); have n3_ := n2_; clear HB; have HB := n0_; have BK250 := n1_; have GW250 := n2_; have GE250 := n3_; clear n0_ n1_ n2_ n3_; clear hb hbox hg))
       have n0_ := Aside0.mk (yD BK250.out)
       have n1_ := Aside0.mk (zD HB.out)
       clear BK250
       clear HB
       have BK250 := n0_
       have HB := n1_
       clear n0_ n1_
       have p251 : 0 ≤ (1 : Int) := (by omega)
       have q251 : 1 < (l0.length : Int) := of_decide_eq_true (by first | (with_reducible assumption) | assumption)
       obtain ⟨ad251, e251, hx251_0⟩ := Kd.at_int HR0.out 1 p251 q251
       have hw251_0 := hx251_0
       (try rw [show ((1 : Int)).toNat = 1 from rfl] at hw251_0)
       (try rw [show 1 * 1 = 1 from rfl] at hw251_0)
       (try simp only [Nat.reduceMul, Nat.reduceEqDiff, Go.Addr.add, ↓reduceIte] at hw251_0)
       cases e251
       (try simp only [show (1 : Int).toNat = 1 from rfl, Nat.reduceMul, Nat.reduceEqDiff, Go.Addr.add, ↓reduceIte] at hx251_0)
       have qi251 : (1 < l0.length) = True := eq_true (by omega)
       (try rw [show ((1 : Int)).toNat = 1 from rfl] at hx251_0)
       replace hx251_0 := (HB.out.cell (World.block_lt_of_cell? w _ hx251_0)).trans hx251_0
       replace p251 := eq_true p251
       replace q251 := eq_true q251
       have p252 : 0 ≤ (2 : Int) := (by omega)
       have q252 : 2 < (l0.length : Int) := of_decide_eq_true (by first | (with_reducible assumption) | assumption)
       obtain ⟨ad252, e252, hx252_0⟩ := Kd.at_int HR0.out 2 p252 q252
       have hw252_0 := hx252_0
       (try rw [show ((2 : Int)).toNat = 2 from rfl] at hw252_0)
       (try rw [show 2 * 1 = 2 from rfl] at hw252_0)
       (try simp only [Nat.reduceMul, Nat.reduceEqDiff, Go.Addr.add, ↓reduceIte] at hw252_0)
       obtain rfl : ad251 = ad252 := (by injection e252)
       (try simp only [show (2 : Int).toNat = 2 from rfl, Nat.reduceMul, Nat.reduceEqDiff, Go.Addr.add, ↓reduceIte] at hx252_0)
       have qi252 : (2 < l0.length) = True := eq_true (by omega)
       (try rw [show ((2 : Int)).toNat = 2 from rfl] at hx252_0)
       replace hx252_0 := (HB.out.cell (World.block_lt_of_cell? w _ hx252_0)).trans hx252_0
       replace p252 := eq_true p252
       replace q252 := eq_true q252
       have p253 : 0 ≤ (3 : Int) := (by omega)
       have q253 : 3 < (l0.length : Int) := of_decide_eq_true (by first | (with_reducible assumption) | assumption)
       obtain ⟨ad253, e253, hx253_0⟩ := Kd.at_int HR0.out 3 p253 q253
       have hw253_0 := hx253_0
       (try rw [show ((3 : Int)).toNat = 3 from rfl] at hw253_0)
       (try rw [show 3 * 1 = 3 from rfl] at hw253_0)
       (try simp only [Nat.reduceMul, Nat.reduceEqDiff, Go.Addr.add, ↓reduceIte] at hw253_0)
       obtain rfl : ad251 = ad253 := (by injection e253)
       (try simp only [show (3 : Int).toNat = 3 from rfl, Nat.reduceMul, Nat.reduceEqDiff, Go.Addr.add, ↓reduceIte] at hx253_0)
       have qi253 : (3 < l0.length) = True := eq_true (by omega)
       (try rw [show ((3 : Int)).toNat = 3 from rfl] at hx253_0)
       replace hx253_0 := (HB.out.cell (World.block_lt_of_cell? w _ hx253_0)).trans hx253_0
       replace p253 := eq_true p253
       replace q253 := eq_true q253
       have p254 : 0 ≤ (1 : Int) := (by omega)
       have q254 : 1 < (l0.length : Int) := of_decide_eq_true (by first | (with_reducible assumption) | assumption)
       obtain ⟨ad254, e254, hx254_0⟩ := Kd.at_int HR0.out 1 p254 q254
       have hw254_0 := hx254_0
       (try rw [show ((1 : Int)).toNat = 1 from rfl] at hw254_0)
       (try rw [show 1 * 1 = 1 from rfl] at hw254_0)
       (try simp only [Nat.reduceMul, Nat.reduceEqDiff, Go.Addr.add, ↓reduceIte] at hw254_0)
       obtain rfl : ad251 = ad254 := (by injection e254)
       (try simp only [show (1 : Int).toNat = 1 from rfl, Nat.reduceMul, Nat.reduceEqDiff, Go.Addr.add, ↓reduceIte] at hx254_0)
       have qi254 : (1 < l0.length) = True := eq_true (by omega)
       (try rw [show ((1 : Int)).toNat = 1 from rfl] at hx254_0)
       replace hx254_0 := (HB.out.cell (World.block_lt_of_cell? w _ hx254_0)).trans hx254_0
       replace p254 := eq_true p254
       replace q254 := eq_true q254
       refine start_ (n := 24) (S := fun w' => w'.cell? ⟨ad251.block, ad251.off + 1, none⟩ = some (.int .u8 (rd l0 1)) ∧ w'.cell? ⟨ad251.block, ad251.off + 2, none⟩ = some (.int .u8 (rd l0 2)) ∧ w'.cell? ⟨ad251.block, ad251.off + 3, none⟩ = some (.int .u8 (rd l0 3)) ∧ w'.cell? ⟨ad251.block, ad251.off + 1, none⟩ = some (.int .u8 (rd l0 1))) (ds := []) #[false, false, false, false, false, false, false, false, false, false, false, false, false, false, false, false, false, false, false, false, false, false, false, false] (by kernel_rfl) rfl rfl ⟨((HB.out.cell (World.block_lt_of_cell? w _ hw251_0)).trans hw251_0), ((HB.out.cell (World.block_lt_of_cell? w _ hw252_0)).trans hw252_0), ((HB.out.cell (World.block_lt_of_cell? w _ hw253_0)).trans hw253_0), ((HB.out.cell (World.block_lt_of_cell? w _ hw254_0)).trans hw254_0)⟩ (fun hHeld => ?_); refine with_tabW transport_read.tab1 transport_read.bits1 (fun HT_ HW_ => ?_)
       generalize w9.drew = w10 at BK250 HB hx251_0 hx252_0 hx253_0 hx254_0 hHeld ⊢
       refine pure_ (i := 0) (N := some 7) (v := ?_) (a' := ?_) #[T', F', F', F', F', F', F', F', F', F', F', F', F', F', F', F', F', F', F', F', F', F', F', F'] rfl rfl (any_of HT_.out (by kernel_rfl)) (fun _ _ _ h => h) (Or.inl ⟨by rfl, ?_⟩) ?_ ?_;rotate_left;(intro w';go_simp;with_reducible rfl);rotate_left;(simp only [Act.put, sA, sZ, sS, i64_w, i32_w];rfl)
       refine pure_ (i := 1) (N := some 8) (v := ?_) (a' := ?_) #[T', T', F', F', F', F', F', F', F', F', F', F', F', F', F', F', F', F', F', F', F', F', F', F'] rfl rfl (any_of HT_.out (by kernel_rfl)) (fun _ _ _ h => h) (Or.inl ⟨by rfl, ?_⟩) ?_ ?_;rotate_left;(intro w';go_simp;with_reducible rfl);rotate_left;(simp only [Act.put, sA, sZ, sS, i64_w, i32_w];rfl)
       refine pure_ (i := 6) (N := some 13) (v := ?_) (a' := ?_) #[T', T', F', F', F', F', T', F', F', F', F', F', F', F', F', F', F', F', F', F', F', F', F', F'] rfl rfl (any_of HT_.out (by kernel_rfl)) (fun _ _ _ h => h) (Or.inl ⟨by rfl, ?_⟩) ?_ ?_;rotate_left;(intro w';go_simp;with_reducible rfl);rotate_left;(simp only [Act.put, sA, sZ, sS, i64_w, i32_w];rfl)
       refine pure_ (i := 7) (N := some 14) (v := ?_) (a' := ?_) #[T', T', F', F', F', F', T', T', F', F', F', F', F', F', F', F', F', F', F', F', F', F', F', F'] rfl rfl (any_of HT_.out (by kernel_rfl)) (fun _ _ _ h => h) (Or.inl ⟨by rfl, ?_⟩) ?_ ?_;rotate_left;(intro w';go_simp;with_reducible rfl);rotate_left;(simp only [Act.put, sA, sZ, sS, i64_w, i32_w];rfl)
       refine pure_ (i := 11) (N := some 18) (v := ?_) (a' := ?_) #[T', T', F', F', F', F', T', T', F', F', F', T', F', F', F', F', F', F', F', F', F', F', F', F'] rfl rfl (any_of HT_.out (by kernel_rfl)) (fun _ _ _ h => h) (Or.inl ⟨by rfl, ?_⟩) ?_ ?_;rotate_left;(intro w';go_simp;with_reducible rfl);rotate_left;(simp only [Act.put, sA, sZ, sS, i64_w, i32_w];rfl)
       refine pure_ (i := 12) (N := some 19) (v := ?_) (a' := ?_) #[T', T', F', F', F', F', T', T', F', F', F', T', T', F', F', F', F', F', F', F', F', F', F', F'] rfl rfl (any_of HT_.out (by kernel_rfl)) (fun _ _ _ h => h) (Or.inl ⟨by rfl, ?_⟩) ?_ ?_;rotate_left;(intro w';go_simp;with_reducible rfl);rotate_left;(simp only [Act.put, sA, sZ, sS, i64_w, i32_w];rfl)
       refine pure_ (i := 16) (N := some 23) (v := ?_) (a' := ?_) #[T', T', F', F', F', F', T', T', F', F', F', T', T', F', F', F', T', F', F', F', F', F', F', F'] rfl rfl (any_of HT_.out (by kernel_rfl)) (fun _ _ _ h => h) (Or.inl ⟨by rfl, ?_⟩) ?_ ?_;rotate_left;(intro w';go_simp;with_reducible rfl);rotate_left;(simp only [Act.put, sA, sZ, sS, i64_w, i32_w];rfl)
       refine pure_ (i := 17) (N := some 24) (v := ?_) (a' := ?_) #[T', T', F', F', F', F', T', T', F', F', F', T', T', F', F', F', T', T', F', F', F', F', F', F'] rfl rfl (any_of HT_.out (by kernel_rfl)) (fun _ _ _ h => h) (Or.inl ⟨by rfl, ?_⟩) ?_ ?_;rotate_left;(intro w';go_simp;with_reducible rfl);rotate_left;(simp only [Act.put, sA, sZ, sS, i64_w, i32_w];rfl)
       refine take_ (i := 2) (N := some 9) (v := ?_) (a' := ?_) #[T', T', T', F', F', F', T', T', F', F', F', T', T', F', F', F', T', T', F', F', F', F', F', F'] rfl rfl (take_ofW HT_.out HW_.out (by kernel_rfl)) (fun _ _ _ h => h) (Or.inl ⟨by rfl, ?_⟩) hHeld ?_ ?_;rotate_left;(rintro w' ⟨s0, s1, s2, s3⟩;go_simp;with_reducible rfl);rotate_left;(simp only [Act.put, sA, sZ, sS, i64_w, i32_w];rfl)
       refine pure_ (i := 3) (N := some 10) (v := ?_) (a' := ?_) #[T', T', T', T', F', F', T', T', F', F', F', T', T', F', F', F', T', T', F', F', F', F', F', F'] rfl rfl (any_of HT_.out (by kernel_rfl)) (fun _ _ _ h => h) (Or.inl ⟨by rfl, ?_⟩) ?_ ?_;rotate_left;(intro w';go_simp;with_reducible rfl);rotate_left;(simp only [Act.put, sA, sZ, sS, i64_w, i32_w];rfl)
       refine pure_ (i := 4) (N := some 11) (v := ?_) (a' := ?_) #[T', T', T', T', T', F', T', T', F', F', F', T', T', F', F', F', T', T', F', F', F', F', F', F'] rfl rfl (any_of HT_.out (by kernel_rfl)) (fun _ _ _ h => h) (Or.inl ⟨by rfl, ?_⟩) ?_ ?_;rotate_left;(intro w';go_simp;with_reducible rfl);rotate_left;(simp only [Act.put, sA, sZ, sS, i64_w, i32_w];rfl)
       refine pure_ (i := 5) (N := some 12) (v := ?_) (a' := ?_) #[T', T', T', T', T', T', T', T', F', F', F', T', T', F', F', F', T', T', F', F', F', F', F', F'] rfl rfl (any_of HT_.out (by kernel_rfl)) (fun _ _ _ h => h) (Or.inl ⟨by rfl, ?_⟩) ?_ ?_;rotate_left;(intro w';go_simp;with_reducible rfl);rotate_left;(simp only [Act.put, sA, sZ, sS, i64_w, i32_w];rfl)
       refine take_ (i := 8) (N := some 15) (v := ?_) (a' := ?_) #[T', T', T', T', T', T', T', T', T', F', F', T', T', F', F', F', T', T', F', F', F', F', F', F'] rfl rfl (take_ofW HT_.out HW_.out (by kernel_rfl)) (fun _ _ _ h => h) (Or.inl ⟨by rfl, ?_⟩) hHeld ?_ ?_;rotate_left;(rintro w' ⟨s0, s1, s2, s3⟩;go_simp;with_reducible rfl);rotate_left;(simp only [Act.put, sA, sZ, sS, i64_w, i32_w];rfl)
       refine pure_ (i := 9) (N := some 16) (v := ?_) (a' := ?_) #[T', T', T', T', T', T', T', T', T', T', F', T', T', F', F', F', T', T', F', F', F', F', F', F'] rfl rfl (any_of HT_.out (by kernel_rfl)) (fun _ _ _ h => h) (Or.inl ⟨by rfl, ?_⟩) ?_ ?_;rotate_left;(intro w';go_simp;with_reducible rfl);rotate_left;(simp only [Act.put, sA, sZ, sS, i64_w, i32_w];rfl)
       refine pure_ (i := 10) (N := some 17) (v := ?_) (a' := ?_) #[T', T', T', T', T', T', T', T', T', T', T', T', T', F', F', F', T', T', F', F', F', F', F', F'] rfl rfl (any_of HT_.out (by kernel_rfl)) (fun _ _ _ h => h) (Or.inl ⟨by rfl, ?_⟩) ?_ ?_;rotate_left;(intro w';go_simp;with_reducible rfl);rotate_left;(simp only [Act.put, sA, sZ, sS, i64_w, i32_w];rfl)
       refine take_ (i := 13) (N := some 20) (v := ?_) (a' := ?_) #[T', T', T', T', T', T', T', T', T', T', T', T', T', T', F', F', T', T', F', F', F', F', F', F'] rfl rfl (take_ofW HT_.out HW_.out (by kernel_rfl)) (fun _ _ _ h => h) (Or.inl ⟨by rfl, ?_⟩) hHeld ?_ ?_;rotate_left;(rintro w' ⟨s0, s1, s2, s3⟩;go_simp;with_reducible rfl);rotate_left;(simp only [Act.put, sA, sZ, sS, i64_w, i32_w];rfl)
       refine pure_ (i := 14) (N := some 21) (v := ?_) (a' := ?_) #[T', T', T', T', T', T', T', T', T', T', T', T', T', T', T', F', T', T', F', F', F', F', F', F'] rfl rfl (any_of HT_.out (by kernel_rfl)) (fun _ _ _ h => h) (Or.inl ⟨by rfl, ?_⟩) ?_ ?_;rotate_left;(intro w';go_simp;with_reducible rfl);rotate_left;(simp only [Act.put, sA, sZ, sS, i64_w, i32_w];rfl)
       refine pure_ (i := 15) (N := some 22) (v := ?_) (a' := ?_) #[T', T', T', T', T', T', T', T', T', T', T', T', T', T', T', T', T', T', F', F', F', F', F', F'] rfl rfl (any_of HT_.out (by kernel_rfl)) (fun _ _ _ h => h) (Or.inl ⟨by rfl, ?_⟩) ?_ ?_;rotate_left;(intro w';go_simp;with_reducible rfl);rotate_left;(simp only [Act.put, sA, sZ, sS, i64_w, i32_w];rfl)
       refine take_ (i := 18) (N := some 25) (v := ?_) (a' := ?_) #[T', T', T', T', T', T', T', T', T', T', T', T', T', T', T', T', T', T', T', F', F', F', F', F'] rfl rfl (take_ofW HT_.out HW_.out (by kernel_rfl)) (fun _ _ _ h => h) (Or.inl ⟨by rfl, ?_⟩) hHeld ?_ ?_;rotate_left;(rintro w' ⟨s0, s1, s2, s3⟩;go_simp;with_reducible rfl);rotate_left;(simp only [Act.put, sA, sZ, sS, i64_w, i32_w];rfl)
       refine pure_ (i := 19) (N := some 26) (v := ?_) (a' := ?_) #[T', T', T', T', T', T', T', T', T', T', T', T', T', T', T', T', T', T', T', T', F', F', F', F'] rfl rfl (any_of HT_.out (by kernel_rfl)) (fun _ _ _ h => h) (Or.inl ⟨by rfl, ?_⟩) ?_ ?_;rotate_left;(intro w';go_simp;with_reducible rfl);rotate_left;(simp only [Act.put, sA, sZ, sS, i64_w, i32_w];rfl)
       refine pure_ (i := 20) (N := some 27) (v := ?_) (a' := ?_) #[T', T', T', T', T', T', T', T', T', T', T', T', T', T', T', T', T', T', T', T', T', F', F', F'] rfl rfl (any_of HT_.out (by kernel_rfl)) (fun _ _ _ h => h) (Or.inl ⟨by rfl, ?_⟩) ?_ ?_;rotate_left;(intro w';go_simp;with_reducible rfl);rotate_left;(simp only [Act.put, sA, sZ, sS, i64_w, i32_w];rfl)
       refine pure_ (i := 21) (N := some 28) (v := ?_) (a' := ?_) #[T', T', T', T', T', T', T', T', T', T', T', T', T', T', T', T', T', T', T', T', T', T', F', F'] rfl rfl (any_of HT_.out (by kernel_rfl)) (fun _ _ _ h => h) (Or.inl ⟨by rfl, ?_⟩) ?_ ?_;rotate_left;(intro w';go_simp;with_reducible rfl);rotate_left;(simp only [Act.put, sA, sZ, sS, i64_w, i32_w];rfl)
       refine one_ (i := 22) (N := some 3) #[T', T', T', T', T', T', T', T', T', T', T', T', T', T', T', T', T', T', T', T', T', T', T', F'] rfl rfl (one_of HT_.out (by kernel_rfl)) (by decide) (fun K hK => ?_)
       refine box_step ?hg (N := 3) ?hd (cs := #[.int .i64 0, .int .i64 0, .bool false, .int .i64 0, .slice none 0 0]) (t := 28) ?hr ?_; (case hd => rfl); (case hg => rfl); (case hr => first | (go_simp; done) | (go_simp; rfl))
       intro gb255 hg w11 hbox hb
       have n0_ := Aside0.mk (yB (g := gb250) (o := .cells #[.int .i64 0, .int .i64 0, .bool false, .int .i64 0, .slice none 0 0] 28 (0, 0)) (by (with_reducible repeat (first | refine yN ?_ _ | refine yD ?_ | refine yA ?_ _)); exact BK250.out) hb)
       have n1_ := Aside0.mk (zT (by repeat (first | (with_reducible first | exact HB.out | apply zA | apply zN | apply zD | refine zP ?_ GE250.out) | exact HB.out)) hb)
       have n2_ := Aside0.mk (hbox)
       have n3_ := Aside0.mk ((by rw [hg]; exact (zS (by repeat (first | (with_reducible first | exact HB.out | apply zA | apply zN | apply zD | refine zP ?_ GE250.out) | exact HB.out))) : w.heap.size ≤ gb255))
       have n4_ := Aside0.mk ((by rw [hg]; exact (zS (by repeat (first | (with_reducible first | exact HB.out | apply zA | apply zN | apply zD | refine zP ?_ GE250.out) | exact HB.out))) : w.heap.size ≤ gb255))
       have n5_ := Aside0.mk ((by rw [hg]; exact Nat.ne_of_lt (blk_lt (g := gb250) (o := .cells #[.int .i64 0, .int .i64 0, .bool false, .int .i64 0, .slice none 0 0] 28 (0, 0)) (by (with_reducible repeat (first | refine yN ?_ _ | refine yD ?_ | refine yA ?_ _)); exact BK250.out)) : gb250 ≠ gb255))
       have n6_ := Aside0.mk ((by rw [hg]; exact Nat.ne_of_gt (blk_lt (g := gb250) (o := .cells #[.int .i64 0, .int .i64 0, .bool false, .int .i64 0, .slice none 0 0] 28 (0, 0)) (by (with_reducible repeat (first | refine yN ?_ _ | refine yD ?_ | refine yA ?_ _)); exact BK250.out)) : gb255 ≠ gb250))
       clear BK250
       clear HB
       have BK250 := n0_
       have HB := n1_
       have BK255 := n2_
       have GW255 := n3_
       have GE255 := n4_
       have NB250_255 := n5_
       have NB255_250 := n6_
       clear n0_ n1_ n2_ n3_ n4_ n5_ n6_
       clear hb hbox hg
       refine hK.out _ _ ⟨((HB.out.cell (World.block_lt_of_cell? w _ hw251_0)).trans hw251_0), ((HB.out.cell (World.block_lt_of_cell? w _ hw252_0)).trans hw252_0), ((HB.out.cell (World.block_lt_of_cell? w _ hw253_0)).trans hw253_0), ((HB.out.cell (World.block_lt_of_cell? w _ hw254_0)).trans hw254_0)⟩ (fun hHeld => ?_)
       clear hK K
       refine norm_ (a' := ?_) ?_ ?_
       rotate_left
       ·show Act.put _ (some 3) _ = _
        simp only [Act.put, sA, sZ, sS, i64_w, i32_w]
        rfl
       refine one_ (i := 23) (N := none) #[T', T', T', T', T', T', T', T', T', T', T', T', T', T', T', T', T', T', T', T', T', T', T', T'] rfl rfl (one_of HT_.out (by kernel_rfl)) (by decide) (fun K hK => ?_)
       have hs12 : w11.cell? ⟨gb255, 0, none⟩ = some (.int .i64 0) := (blk_cell BK255.out 0).trans rfl
       have hfs12 := blk_frozen BK255.out 0
       have hns12_0 := NB250_255.out
       have hms12_0 := NB255_250.out
       have hs13 : w11.cell? ⟨gb255, 1, none⟩ = some (.int .i64 0) := (blk_cell BK255.out 1).trans rfl
       have hfs13 := blk_frozen BK255.out 1
       have hns13_0 := NB250_255.out
       have hms13_0 := NB255_250.out
       have hs14 : w11.cell? ⟨gb255, 2, none⟩ = some (.bool false) := (blk_cell BK255.out 2).trans rfl
       have hfs14 := blk_frozen BK255.out 2
       have hns14_0 := NB250_255.out
       have hms14_0 := NB255_250.out
       have hs15 : w11.cell? ⟨gb255, 3, none⟩ = some (.int .i64 0) := (blk_cell BK255.out 3).trans rfl
       have hfs15 := blk_frozen BK255.out 3
       have hns15_0 := NB250_255.out
       have hms15_0 := NB255_250.out
       have hs16 : w11.cell? ⟨gb255, 4, none⟩ = some (.slice none 0 0) := (blk_cell BK255.out 4).trans rfl
       have hfs16 := blk_frozen BK255.out 4
       have hns16_0 := NB250_255.out
       have hms16_0 := NB255_250.out
       refine skip_ (w1 := ?_) (by rfl) rfl ?_ ?_
       rotate_left
       ·go_simp
        rfl
       refine hK.out _ _ ⟨((xF (p := ⟨gb255, _, none⟩) (by first | exact nE38 hw251_0 GW255.out | exact nF38 hw251_0 GW255.out | (rw [xB]; exact nE38 hw251_0 GW255.out) | (rw [xB]; exact nF38 hw251_0 GW255.out)) _).trans (((xF (p := ⟨gb255, _, none⟩) (by first | exact nE38 hw251_0 GW255.out | exact nF38 hw251_0 GW255.out | (rw [xB]; exact nE38 hw251_0 GW255.out) | (rw [xB]; exact nF38 hw251_0 GW255.out)) _).trans (((xF (p := ⟨gb255, _, none⟩) (by first | exact nE38 hw251_0 GW255.out | exact nF38 hw251_0 GW255.out | (rw [xB]; exact nE38 hw251_0 GW255.out) | (rw [xB]; exact nF38 hw251_0 GW255.out)) _).trans (((xF (p := ⟨gb255, _, none⟩) (by first | exact nE38 hw251_0 GW255.out | exact nF38 hw251_0 GW255.out | (rw [xB]; exact nE38 hw251_0 GW255.out) | (rw [xB]; exact nF38 hw251_0 GW255.out)) _).trans (((xF (p := ⟨gb255, _, none⟩) (by first | exact nE38 hw251_0 GW255.out | exact nF38 hw251_0 GW255.out | (rw [xB]; exact nE38 hw251_0 GW255.out) | (rw [xB]; exact nF38 hw251_0 GW255.out)) _).trans (hHeld.1)))))))))), ((xF (p := ⟨gb255, _, none⟩) (by first | exact nE38 hw252_0 GW255.out | exact nF38 hw252_0 GW255.out | (rw [xB]; exact nE38 hw252_0 GW255.out) | (rw [xB]; exact nF38 hw252_0 GW255.out)) _).trans (((xF (p := ⟨gb255, _, none⟩) (by first | exact nE38 hw252_0 GW255.out | exact nF38 hw252_0 GW255.out | (rw [xB]; exact nE38 hw252_0 GW255.out) | (rw [xB]; exact nF38 hw252_0 GW255.out)) _).trans (((xF (p := ⟨gb255, _, none⟩) (by first | exact nE38 hw252_0 GW255.out | exact nF38 hw252_0 GW255.out | (rw [xB]; exact nE38 hw252_0 GW255.out) | (rw [xB]; exact nF38 hw252_0 GW255.out)) _).trans (((xF (p := ⟨gb255, _, none⟩) (by first | exact nE38 hw252_0 GW255.out | exact nF38 hw252_0 GW255.out | (rw [xB]; exact nE38 hw252_0 GW255.out) | (rw [xB]; exact nF38 hw252_0 GW255.out)) _).trans (((xF (p := ⟨gb255, _, none⟩) (by first | exact nE38 hw252_0 GW255.out | exact nF38 hw252_0 GW255.out | (rw [xB]; exact nE38 hw252_0 GW255.out) | (rw [xB]; exact nF38 hw252_0 GW255.out)) _).trans (hHeld.2.1)))))))))), ((xF (p := ⟨gb255, _, none⟩) (by first | exact nE38 hw253_0 GW255.out | exact nF38 hw253_0 GW255.out | (rw [xB]; exact nE38 hw253_0 GW255.out) | (rw [xB]; exact nF38 hw253_0 GW255.out)) _).trans (((xF (p := ⟨gb255, _, none⟩) (by first | exact nE38 hw253_0 GW255.out | exact nF38 hw253_0 GW255.out | (rw [xB]; exact nE38 hw253_0 GW255.out) | (rw [xB]; exact nF38 hw253_0 GW255.out)) _).trans (((xF (p := ⟨gb255, _, none⟩) (by first | exact nE38 hw253_0 GW255.out | exact nF38 hw253_0 GW255.out | (rw [xB]; exact nE38 hw253_0 GW255.out) | (rw [xB]; exact nF38 hw253_0 GW255.out)) _).trans (((xF (p := ⟨gb255, _, none⟩) (by first | exact nE38 hw253_0 GW255.out | exact nF38 hw253_0 GW255.out | (rw [xB]; exact nE38 hw253_0 GW255.out) | (rw [xB]; exact nF38 hw253_0 GW255.out)) _).trans (((xF (p := ⟨gb255, _, none⟩) (by first | exact nE38 hw253_0 GW255.out | exact nF38 hw253_0 GW255.out | (rw [xB]; exact nE38 hw253_0 GW255.out) | (rw [xB]; exact nF38 hw253_0 GW255.out)) _).trans (hHeld.2.2.1)))))))))), ((xF (p := ⟨gb255, _, none⟩) (by first | exact nE38 hw254_0 GW255.out | exact nF38 hw254_0 GW255.out | (rw [xB]; exact nE38 hw254_0 GW255.out) | (rw [xB]; exact nF38 hw254_0 GW255.out)) _).trans (((xF (p := ⟨gb255, _, none⟩) (by first | exact nE38 hw254_0 GW255.out | exact nF38 hw254_0 GW255.out | (rw [xB]; exact nE38 hw254_0 GW255.out) | (rw [xB]; exact nF38 hw254_0 GW255.out)) _).trans (((xF (p := ⟨gb255, _, none⟩) (by first | exact nE38 hw254_0 GW255.out | exact nF38 hw254_0 GW255.out | (rw [xB]; exact nE38 hw254_0 GW255.out) | (rw [xB]; exact nF38 hw254_0 GW255.out)) _).trans (((xF (p := ⟨gb255, _, none⟩) (by first | exact nE38 hw254_0 GW255.out | exact nF38 hw254_0 GW255.out | (rw [xB]; exact nE38 hw254_0 GW255.out) | (rw [xB]; exact nF38 hw254_0 GW255.out)) _).trans (((xF (p := ⟨gb255, _, none⟩) (by first | exact nE38 hw254_0 GW255.out | exact nF38 hw254_0 GW255.out | (rw [xB]; exact nE38 hw254_0 GW255.out) | (rw [xB]; exact nF38 hw254_0 GW255.out)) _).trans (hHeld.2.2.2))))))))))⟩ (fun hHeld => ?_)
       clear hK K
       refine done_ (done_of HT_.out (by kernel_rfl)) ?_
       have p256 : 0 ≤ (3 : Int) := (by omega)
       have q256 : 3 < (l0.length : Int) := of_decide_eq_true (by first | (with_reducible assumption) | assumption)
       obtain ⟨ad256, e256, hx256_0⟩ := Kd.at_int HR0.out 3 p256 q256
       obtain rfl : ad251 = ad256 := (by injection e256)
       (try simp only [show (3 : Int).toNat = 3 from rfl, Nat.reduceMul, Nat.reduceEqDiff, Go.Addr.add, ↓reduceIte] at hx256_0)
       have qi256 : (3 < l0.length) = True := eq_true (by omega)
       (try rw [show ((3 : Int)).toNat = 3 from rfl] at hx256_0)
       have hn256_0 : ad251.block ≠ gb255 := Nat.ne_of_lt (Nat.lt_of_lt_of_le (by have := World.block_lt_of_cell? _ _ hx256_0; first | rwa [xB] at this | exact this) GW255.out)
       have hn256_1 : ad251.block ≠ gb255 := Nat.ne_of_lt (Nat.lt_of_lt_of_le (by have := World.block_lt_of_cell? _ _ hx256_0; first | rwa [xB] at this | exact this) GW255.out)
       have hn256_2 : ad251.block ≠ gb255 := Nat.ne_of_lt (Nat.lt_of_lt_of_le (by have := World.block_lt_of_cell? _ _ hx256_0; first | rwa [xB] at this | exact this) GW255.out)
       have hn256_3 : ad251.block ≠ gb255 := Nat.ne_of_lt (Nat.lt_of_lt_of_le (by have := World.block_lt_of_cell? _ _ hx256_0; first | rwa [xB] at this | exact this) GW255.out)
       have hn256_4 : ad251.block ≠ gb255 := Nat.ne_of_lt (Nat.lt_of_lt_of_le (by have := World.block_lt_of_cell? _ _ hx256_0; first | rwa [xB] at this | exact this) GW255.out)
       replace hx256_0 := (HB.out.cell (World.block_lt_of_cell? w _ hx256_0)).trans hx256_0
       replace hx256_0 := (xF (p := ⟨gb255, 0, none⟩) (by first | (rw [xB]; exact hn256_0) | (show (Addr.add _ _).block ≠ _; rw [xB]; exact hn256_0) | exact hn256_0) (.int .i64 (Go.bits .or .i64 (wrap64 ((wrap64 (Go.bits .and .u8 (rd l0 1) 31)) * 256)) (wrap64 (rd l0 2))))).trans hx256_0
       replace hx256_0 := (xF (p := ⟨gb255, 1, none⟩) (by first | (rw [xB]; exact hn256_1) | (show (Addr.add _ _).block ≠ _; rw [xB]; exact hn256_1) | exact hn256_1) (.int .i64 (wrap64 (Go.bits .and .u8 (rd l0 3) 15)))).trans hx256_0
       replace hx256_0 := (xF (p := ⟨gb255, 2, none⟩) (by first | (rw [xB]; exact hn256_2) | (show (Addr.add _ _).block ≠ _; rw [xB]; exact hn256_2) | exact hn256_2) (.bool ((Go.bits .and .u8 (rd l0 1) 64) != 0))).trans hx256_0
       replace hx256_0 := (xF (p := ⟨gb255, 3, none⟩) (by first | (rw [xB]; exact hn256_3) | (show (Addr.add _ _).block ≠ _; rw [xB]; exact hn256_3) | exact hn256_3) (.int .i64 (-1))).trans hx256_0
       replace hx256_0 := (xF (p := ⟨gb255, 4, none⟩) (by first | (rw [xB]; exact hn256_4) | (show (Addr.add _ _).block ≠ _; rw [xB]; exact hn256_4) | exact hn256_4) (.slice none 0 0)).trans hx256_0
       clear hn256_0
       clear hn256_1
       clear hn256_2
       clear hn256_3
       clear hn256_4
       replace p256 := eq_true p256
       replace q256 := eq_true q256
       obtain ⟨i017, hi017, _, hsz17, _⟩ := info_parts info5
       obtain ⟨A17, hcut17, hA17, hC17⟩ := print_mid_of (P := Try.prog) (Value.int .u8) 0 22 5 .i64 .i64 Try.underlying22 hi017 hsz17 (some ad251) c0 l0 4 188 (by omega) (by first | omega | exact of_decide_eq_true (by first | (with_reducible assumption) | assumption)) (of_decide_eq_true (by first | (with_reducible assumption) | assumption)) HC0.out
       have HR257 := Aside0.mk (Kd.C_of_reads (h1 := fun _ => rfl) (hA17 _ (Kd.reads_of_C HR0.out)))
       have HC257 := Aside0.mk hC17
       clear hA17 hC17 hi017 hsz17
       try go_wp2_with (first | ((with_reducible refine xC (f := 42) rfl ?_); refine goesL_ (some 96) rfl rfl Try.func42 (by kernel_rfl) rfl #[.slice A17 ((l0.take 188).drop 4).length (c0 - 4)] rfl (by (try simp only [List.map_toArray, List.map_cons, List.map_nil]); first | done | (rw [show ((l0.take 188).drop 4).length = (188 - 4) from (by rw [List.length_drop, List.length_take]; have h_ : (188 : Int) ≤ (l0.length : Int) := of_decide_eq_true (by first | (with_reducible assumption) | assumption); omega)] <;> rfl) | rfl | (simp only [List.length_drop, List.length_take]; rfl)) ?_; (with_reducible refine (slices_Clone_byte_byte.calls _ _ ((l0.take 188).drop 4) t258 _ ?side1 ?side2 A8.out).mono ?_); (case side1 => exact Kd.C_below HR257.out (by repeat (first | (with_reducible first | exact HB.out | apply zA | apply zN | apply zD | refine zP ?_ GE250.out | refine zP ?_ GE255.out) | exact HB.out))); (case side2 => exact HC257.out); rintro e w18 ⟨v259, rfl, ho0, hb⟩; refine ⟨_, rfl, ?_⟩; have n0_ := Aside0.mk (Kd.R_lower ho0 (zS (by repeat (first | (with_reducible first | exact HB.out | apply zA | apply zN | apply zD | refine zP ?_ GE250.out | refine zP ?_ GE255.out) | exact HB.out)))); have n1_ := Aside0.mk (yB (g := gb250) (o := .cells #[.int .i64 0, .int .i64 0, .bool false, .int .i64 0, .slice none 0 0] 28 (0, 0)) (by (with_reducible repeat (first | refine yN ?_ _ | refine yD ?_ | refine yA ?_ _)); refine blk_far ?_ NB250_255.out _; (with_reducible repeat (first | refine yN ?_ _ | refine yD ?_ | refine yA ?_ _)); refine blk_far ?_ NB250_255.out _; (with_reducible repeat (first | refine yN ?_ _ | refine yD ?_ | refine yA ?_ _)); refine blk_far ?_ NB250_255.out _; (with_reducible repeat (first | refine yN ?_ _ | refine yD ?_ | refine yA ?_ _)); refine blk_far ?_ NB250_255.out _; (with_reducible repeat (first | refine yN ?_ _ | refine yD ?_ | refine yA ?_ _)); refine blk_far ?_ NB250_255.out _; (with_reducible repeat (first | refine yN ?_ _ | refine yD ?_ | refine yA ?_ _)); exact BK250.out) hb); have n2_ := Aside0.mk (yB (g := gb255) (o := .cells #[.int .i64 (Go.bits .or .i64 (wrap64 ((wrap64 (Go.bits .and .u8 (rd l0 1) 31)) * 256)) (wrap64 (rd l0 2))), .int .i64 (wrap64 (Go.bits .and .u8 (rd l0 3) 15)), .bool ((Go.bits .and .u8 (rd l0 1) 64) != 0), .int .i64 (-1), .slice none 0 0] 28 (0, 0)) (by (with_reducible repeat (first | refine yN ?_ _ | refine yD ?_ | refine yA ?_ _)); refine blk_put (cs := #[.int .i64 (Go.bits .or .i64 (wrap64 ((wrap64 (Go.bits .and .u8 (rd l0 1) 31)) * 256)) (wrap64 (rd l0 2))), .int .i64 (wrap64 (Go.bits .and .u8 (rd l0 3) 15)), .bool ((Go.bits .and .u8 (rd l0 1) 64) != 0), .int .i64 (-1), .slice none 0 0]) ?_ 4 _ rfl; (with_reducible repeat (first | refine yN ?_ _ | refine yD ?_ | refine yA ?_ _)); refine blk_put (cs := #[.int .i64 (Go.bits .or .i64 (wrap64 ((wrap64 (Go.bits .and .u8 (rd l0 1) 31)) * 256)) (wrap64 (rd l0 2))), .int .i64 (wrap64 (Go.bits .and .u8 (rd l0 3) 15)), .bool ((Go.bits .and .u8 (rd l0 1) 64) != 0), .int .i64 0, .slice none 0 0]) ?_ 3 _ rfl; (with_reducible repeat (first | refine yN ?_ _ | refine yD ?_ | refine yA ?_ _)); refine blk_put (cs := #[.int .i64 (Go.bits .or .i64 (wrap64 ((wrap64 (Go.bits .and .u8 (rd l0 1) 31)) * 256)) (wrap64 (rd l0 2))), .int .i64 (wrap64 (Go.bits .and .u8 (rd l0 3) 15)), .bool false, .int .i64 0, .slice none 0 0]) ?_ 2 _ rfl; (with_reducible repeat (first | refine yN ?_ _ | refine yD ?_ | refine yA ?_ _)); refine blk_put (cs := #[.int .i64 (Go.bits .or .i64 (wrap64 ((wrap64 (Go.bits .and .u8 (rd l0 1) 31)) * 256)) (wrap64 (rd l0 2))), .int .i64 0, .bool false, .int .i64 0, .slice none 0 0]) ?_ 1 _ rfl; (with_reducible repeat (first | refine yN ?_ _ | refine yD ?_ | refine yA ?_ _)); refine blk_put (cs := #[.int .i64 0, .int .i64 0, .bool false, .int .i64 0, .slice none 0 0]) ?_ 0 _ rfl; (with_reducible repeat (first | refine yN ?_ _ | refine yD ?_ | refine yA ?_ _)); exact BK255.out) hb); have n3_ := Aside0.mk (zT (by repeat (first | (with_reducible first | exact HB.out | apply zA | apply zN | apply zD | refine zP ?_ GE250.out | refine zP ?_ GE255.out) | exact HB.out)) hb); clear BK250; clear BK255; clear HB; have HO260 := n0_; have BK250 := n1_; have BK255 := n2_; have HB := n3_; clear n0_ n1_ n2_ n3_; (try clear hb); (try clear hb2); (try clear hk); (try clear hi); (try clear ho0); obtain ⟨Ao19, co19, eo19⟩ := Kd.R_slice HO260.out; subst eo19; have hnb20 := NB255_250.out; have hnc20 := NB250_255.out; have hcz21_0 : w18.cell? ⟨gb255, 0, none⟩ = some (.int .i64 (Go.bits .or .i64 (wrap64 ((wrap64 (Go.bits .and .u8 (rd l0 1) 31)) * 256)) (wrap64 (rd l0 2)))) := (blk_cell BK255.out 0).trans rfl; have hcz21_1 : w18.cell? ⟨gb255, 1, none⟩ = some (.int .i64 (wrap64 (Go.bits .and .u8 (rd l0 3) 15))) := (blk_cell BK255.out 1).trans rfl; have hcz21_2 : w18.cell? ⟨gb255, 2, none⟩ = some (.bool ((Go.bits .and .u8 (rd l0 1) 64) != 0)) := (blk_cell BK255.out 2).trans rfl; have hcz21_3 : w18.cell? ⟨gb255, 3, none⟩ = some (.int .i64 (-1)) := (blk_cell BK255.out 3).trans rfl; have hcz21_4 : w18.cell? ⟨gb255, 4, none⟩ = some (.slice none 0 0) := (blk_cell BK255.out 4).trans rfl; have hfz21_0 := blk_frozen BK255.out 0; have hfz21_1 := blk_frozen BK255.out 1; have hfz21_2 := blk_frozen BK255.out 2; have hfz21_3 := blk_frozen BK255.out 3; have hfz21_4 := blk_frozen BK255.out 4; have hcz22_0 : w18.cell? ⟨gb250, 0, none⟩ = some (.int .i64 0) := (blk_cell BK250.out 0).trans rfl; have hcz22_1 : w18.cell? ⟨gb250, 1, none⟩ = some (.int .i64 0) := (blk_cell BK250.out 1).trans rfl; have hcz22_2 : w18.cell? ⟨gb250, 2, none⟩ = some (.bool false) := (blk_cell BK250.out 2).trans rfl; have hcz22_3 : w18.cell? ⟨gb250, 3, none⟩ = some (.int .i64 0) := (blk_cell BK250.out 3).trans rfl; have hcz22_4 : w18.cell? ⟨gb250, 4, none⟩ = some (.slice none 0 0) := (blk_cell BK250.out 4).trans rfl; have hfz22_0 := blk_frozen BK250.out 0; have hfz22_1 := blk_frozen BK250.out 1; have hfz22_2 := blk_frozen BK250.out 2; have hfz22_3 := blk_frozen BK250.out 3; have hfz22_4 := blk_frozen BK250.out 4))
       refine bodyPost_ret (results_cell_row rfl _ _ gb250 28 #[.int .i64 (Go.bits .or .i64 (wrap64 ((wrap64 (Go.bits .and .u8 (rd l0 1) 31)) * 256)) (wrap64 (rd l0 2))), .int .i64 (wrap64 (Go.bits .and .u8 (rd l0 3) 15)), .bool ((Go.bits .and .u8 (rd l0 1) 64) != 0), .int .i64 (-1), .slice Ao19 t258.length co19] (0, 0) _ rfl (by (with_reducible repeat (first | refine yN ?_ _ | refine yD ?_ | refine yA ?_ _)); refine blk_put (cs := #[.int .i64 (Go.bits .or .i64 (wrap64 ((wrap64 (Go.bits .and .u8 (rd l0 1) 31)) * 256)) (wrap64 (rd l0 2))), .int .i64 (wrap64 (Go.bits .and .u8 (rd l0 3) 15)), .bool ((Go.bits .and .u8 (rd l0 1) 64) != 0), .int .i64 (-1), .slice none 0 0]) ?_ 4 _ rfl; (with_reducible repeat (first | refine yN ?_ _ | refine yD ?_ | refine yA ?_ _)); refine blk_put (cs := #[.int .i64 (Go.bits .or .i64 (wrap64 ((wrap64 (Go.bits .and .u8 (rd l0 1) 31)) * 256)) (wrap64 (rd l0 2))), .int .i64 (wrap64 (Go.bits .and .u8 (rd l0 3) 15)), .bool ((Go.bits .and .u8 (rd l0 1) 64) != 0), .int .i64 0, .slice none 0 0]) ?_ 3 _ rfl; (with_reducible repeat (first | refine yN ?_ _ | refine yD ?_ | refine yA ?_ _)); refine blk_put (cs := #[.int .i64 (Go.bits .or .i64 (wrap64 ((wrap64 (Go.bits .and .u8 (rd l0 1) 31)) * 256)) (wrap64 (rd l0 2))), .int .i64 (wrap64 (Go.bits .and .u8 (rd l0 3) 15)), .bool false, .int .i64 0, .slice none 0 0]) ?_ 2 _ rfl; (with_reducible repeat (first | refine yN ?_ _ | refine yD ?_ | refine yA ?_ _)); refine blk_put (cs := #[.int .i64 (Go.bits .or .i64 (wrap64 ((wrap64 (Go.bits .and .u8 (rd l0 1) 31)) * 256)) (wrap64 (rd l0 2))), .int .i64 0, .bool false, .int .i64 0, .slice none 0 0]) ?_ 1 _ rfl; (with_reducible repeat (first | refine yN ?_ _ | refine yD ?_ | refine yA ?_ _)); refine blk_put (cs := #[.int .i64 0, .int .i64 0, .bool false, .int .i64 0, .slice none 0 0]) ?_ 0 _ rfl; (with_reducible repeat (first | refine yN ?_ _ | refine yD ?_ | refine yA ?_ _)); refine blk_far ?_ NB250_255.out _; (with_reducible repeat (first | refine yN ?_ _ | refine yD ?_ | refine yA ?_ _)); exact BK250.out) Try.underlying28 rfl (by kernel_rfl)) rfl ?_
       exact ⟨_, by first | rfl | (simp [errW_none, errW_some] <;> rfl) | (simp [*, errW_none, errW_some] <;> rfl), by (with_reducible repeat (first | apply Kd.R_alloc | apply Kd.R_drewN | apply Kd.R_drew)); exact Kd.R_mono (Kd.R_far (p := ⟨gb250, 4, none⟩) (Kd.R_far (p := ⟨gb250, 3, none⟩) (Kd.R_far (p := ⟨gb250, 2, none⟩) (Kd.R_far (p := ⟨gb250, 1, none⟩) (Kd.R_far (p := ⟨gb250, 0, none⟩) (Kd.R_far (p := ⟨gb255, 4, none⟩) (Kd.R_types (Kd.R_types HO260.out BK255.out (by decide)) BK250.out (by decide)) (fun _ hk => hk.1.2) (.slice Ao19 t258.length co19)) (fun _ hk => hk.2) (.int .i64 (Go.bits .or .i64 (wrap64 ((wrap64 (Go.bits .and .u8 (rd l0 1) 31)) * 256)) (wrap64 (rd l0 2))))) (fun _ hk => hk.2) (.int .i64 (wrap64 (Go.bits .and .u8 (rd l0 3) 15)))) (fun _ hk => hk.2) (.bool ((Go.bits .and .u8 (rd l0 1) 64) != 0))) (fun _ hk => hk.2) (.int .i64 (-1))) (fun _ hk => hk.2) (.slice Ao19 t258.length co19)) (fun _ hk => trivial), by repeat (first | (with_reducible first | exact HB.out | apply zA | apply zN | apply zD | refine zP ?_ GE250.out | refine zP ?_ GE255.out) | exact HB.out)⟩
      ·rw [if_neg c7] at H
       exact absurd H (by simp)
     ·rw [if_neg c6] at H
      exact absurd H (by simp)
    ·rw [if_neg c5] at H
     have c5b0 : (((rd l0 3) / 16) == 1) = false := beq_eq_false_iff_ne.mpr c5
     have c5b1 : (((rd l0 3) / 16) != 1) = true := bne_iff_ne.mpr c5
     by_cases c23 : 4 < (l0.length : Int)
     ·rw [if_pos c23] at H
      have c23b0 : decide (4 < (l0.length : Int)) = true := decide_eq_true c23
      have c23b1 : decide (4 < l0.length) = true := decide_eq_true (by omega)
      clear c23
      by_cases c24 : (wrap64 (rd l0 4)) ≥ 7
      ·rw [if_pos c24] at H
       have c24b0 : decide (7 ≤ (wrap64 (rd l0 4))) = true := decide_eq_true c24
       clear c24
       by_cases c25 : 5 < (l0.length : Int)
       ·rw [if_pos c25] at H
        have c25b0 : decide (5 < (l0.length : Int)) = true := decide_eq_true c25
        have c25b1 : decide (5 < l0.length) = true := decide_eq_true (by omega)
        clear c25
        by_cases c26 : (rd l0 5) = 16
        ·rw [if_pos c26] at H
         have c26b0 : ((rd l0 5) == 16) = true := beq_iff_eq.mpr c26
         have c26b1 : ((rd l0 5) != 16) = false := bne_eq_false_iff_eq.mpr c26
         clear c26
         by_cases c27 : 6 < (l0.length : Int)
         ·rw [if_pos c27] at H
          have c27b0 : decide (6 < (l0.length : Int)) = true := decide_eq_true c27
          have c27b1 : decide (6 < l0.length) = true := decide_eq_true (by omega)
          clear c27
          by_cases c28 : 7 < (l0.length : Int)
          ·rw [if_pos c28] at H
           have c28b0 : decide (7 < (l0.length : Int)) = true := decide_eq_true c28
           have c28b1 : decide (7 < l0.length) = true := decide_eq_true (by omega)
           clear c28
           by_cases c29 : 8 < (l0.length : Int)
           ·rw [if_pos c29] at H
            have c29b0 : decide (8 < (l0.length : Int)) = true := decide_eq_true c29
            have c29b1 : decide (8 < l0.length) = true := decide_eq_true (by omega)
            clear c29
            by_cases c30 : 9 < (l0.length : Int)
            ·rw [if_pos c30] at H
             have c30b0 : decide (9 < (l0.length : Int)) = true := decide_eq_true c30
             have c30b1 : decide (9 < l0.length) = true := decide_eq_true (by omega)
             clear c30
             by_cases c31 : 10 < (l0.length : Int)
             ·rw [if_pos c31] at H
              have c31b0 : decide (10 < (l0.length : Int)) = true := decide_eq_true c31
              have c31b1 : decide (10 < l0.length) = true := decide_eq_true (by omega)
              clear c31
              by_cases c32 : 11 < (l0.length : Int)
              ·rw [if_pos c32] at H
               have c32b0 : decide (11 < (l0.length : Int)) = true := decide_eq_true c32
               have c32b1 : decide (11 < l0.length) = true := decide_eq_true (by omega)
               clear c32
               obtain ⟨ji33, hji33⟩ : ∃ j_ : Int, (mn (wrap64 (5 + (wrap64 (rd l0 4)))) 188) = j_ := ⟨_, rfl⟩
               replace H : (if 0 ≤ (ji33) then (if (ji33) ≤ 188 then (if 188 ≤ (l0.length : Int) then ((slices_Clone_byte_byte.f ((l0.take 188).drop ((ji33) : Int).toNat)).bind fun t271 => (some (Go.bits .or .i64 (wrap64 ((wrap64 (Go.bits .and .u8 (rd l0 1) 31)) * 256)) (wrap64 (rd l0 2)), wrap64 (Go.bits .and .u8 (rd l0 3) 15), ((Go.bits .and .u8 (rd l0 1) 64) != 0), wrap64 ((wrap64 ((wrap64 ((Go.bits .or .i64 (Go.bits .or .i64 (Go.bits .or .i64 (Go.bits .or .i64 (wrap64 ((wrap64 (rd l0 6)) * 33554432)) (wrap64 ((wrap64 (rd l0 7)) * 131072))) (wrap64 ((wrap64 (rd l0 8)) * 512))) (wrap64 ((wrap64 (rd l0 9)) * 2))) (wrap64 ((rd l0 10) / 128))) * 300)) + (wrap64 ((wrap64 (Go.bits .and .u8 (rd l0 10) 1)) * 256)))) + (wrap64 (rd l0 11))), t271))) else (none)) else (none)) else (none)) = some (r1, r2, r3, r4, r5) := by first | (rw [hji33] at H; exact H) | (simp only [hji33] at H ⊢; exact H)
               (try (have hji33h : ji33 ≤ 188 := by (rw [← hji33]; unfold mn; (repeat' split) <;> omega)))
               (try (have hji33g : ji33 ≤ 64 := by omega))
               have hji33_ : (if 188 < (wrap64 (5 + (wrap64 (rd l0 4)))) then 188 else (wrap64 (5 + (wrap64 (rd l0 4))))) = ji33 := hji33
               by_cases c34 : 0 ≤ (ji33)
               ·rw [if_pos c34] at H
                have c34b0 := eq_true c34
                have c34b1 : decide (0 ≤ (ji33)) = true := decide_eq_true c34
                clear c34
                by_cases c35 : (ji33) ≤ 188
                ·rw [if_pos c35] at H
                 have c35b0 := eq_true c35
                 have c35b1 : decide ((ji33) ≤ 188) = true := decide_eq_true c35
                 clear c35
                 by_cases c36 : 188 ≤ (l0.length : Int)
                 ·rw [if_pos c36] at H
                  have c36b0 := eq_true c36
                  have c36b1 : decide (188 ≤ (l0.length : Int)) = true := decide_eq_true c36
                  clear c36
                  replace H := Option.bind_eq_some_iff.mp H
                  obtain ⟨t271, A370, H⟩ := H
                  replace H : (some (Go.bits .or .i64 (wrap64 ((wrap64 (Go.bits .and .u8 (rd l0 1) 31)) * 256)) (wrap64 (rd l0 2)), wrap64 (Go.bits .and .u8 (rd l0 3) 15), ((Go.bits .and .u8 (rd l0 1) 64) != 0), wrap64 ((wrap64 ((wrap64 ((Go.bits .or .i64 (Go.bits .or .i64 (Go.bits .or .i64 (Go.bits .or .i64 (wrap64 ((wrap64 (rd l0 6)) * 33554432)) (wrap64 ((wrap64 (rd l0 7)) * 131072))) (wrap64 ((wrap64 (rd l0 8)) * 512))) (wrap64 ((wrap64 (rd l0 9)) * 2))) (wrap64 ((rd l0 10) / 128))) * 300)) + (wrap64 ((wrap64 (Go.bits .and .u8 (rd l0 10) 1)) * 256)))) + (wrap64 (rd l0 11))), t271)) = some (r1, r2, r3, r4, r5) := H
                  have A37 := Aside0.mk A370
                  clear A370
                  simp only [Option.some.injEq, Prod.mk.injEq] at H
                  obtain ⟨rfl, rfl, rfl, rfl, rfl⟩ := H
                  go_enter Try.func37, Try.ntmps37
                  try go_wp2_with (first | ((with_reducible refine xD (N := 2) rfl ?_); refine box_event ?hg (N := 2) ?hd (cs := #[.int .i64 0, .int .i64 0, .bool false, .int .i64 0, .slice none 0 0]) (t := 28) ?hr ?_; (case hd => rfl); (case hg => rfl); (case hr => first | (go_simp; done) | (go_simp; rfl)); intro gb250 hg w38 hbox hb; have n0_ := Aside0.mk (zT (by repeat (first | (with_reducible first | exact HB.out | apply zA | apply zN | apply zD) | exact HB.out)) hb); have n1_ := Aside0.mk (hbox); have n2_ := Aside0.mk ((by rw [hg]; exact (zS (by repeat (first | (with_reducible first | exact HB.out | apply zA | apply zN | apply zD) | exact HB.out))) : w.heap.size ≤ gb250)); have n3_ := n2_; clear HB; have HB := n0_; have BK250 := n1_; have GW250 := n2_; have GE250 := n3_; clear n0_ n1_ n2_ n3_; clear hb hbox hg))
                  have n0_ := Aside0.mk (yD BK250.out)
                  have n1_ := Aside0.mk (zD HB.out)
                  clear BK250
                  clear HB
                  have BK250 := n0_
                  have HB := n1_
                  clear n0_ n1_
                  have p251 : 0 ≤ (1 : Int) := (by omega)
                  have q251 : 1 < (l0.length : Int) := of_decide_eq_true (by first | (with_reducible assumption) | assumption)
                  obtain ⟨ad251, e251, hx251_0⟩ := Kd.at_int HR0.out 1 p251 q251
                  have hw251_0 := hx251_0
                  (try rw [show ((1 : Int)).toNat = 1 from rfl] at hw251_0)
                  (try rw [show 1 * 1 = 1 from rfl] at hw251_0)
                  (try simp only [Nat.reduceMul, Nat.reduceEqDiff, Go.Addr.add, ↓reduceIte] at hw251_0)
                  cases e251
                  (try simp only [show (1 : Int).toNat = 1 from rfl, Nat.reduceMul, Nat.reduceEqDiff, Go.Addr.add, ↓reduceIte] at hx251_0)
                  have qi251 : (1 < l0.length) = True := eq_true (by omega)
                  (try rw [show ((1 : Int)).toNat = 1 from rfl] at hx251_0)
                  replace hx251_0 := (HB.out.cell (World.block_lt_of_cell? w _ hx251_0)).trans hx251_0
                  replace p251 := eq_true p251
                  replace q251 := eq_true q251
                  have p252 : 0 ≤ (2 : Int) := (by omega)
                  have q252 : 2 < (l0.length : Int) := of_decide_eq_true (by first | (with_reducible assumption) | assumption)
                  obtain ⟨ad252, e252, hx252_0⟩ := Kd.at_int HR0.out 2 p252 q252
                  have hw252_0 := hx252_0
                  (try rw [show ((2 : Int)).toNat = 2 from rfl] at hw252_0)
                  (try rw [show 2 * 1 = 2 from rfl] at hw252_0)
                  (try simp only [Nat.reduceMul, Nat.reduceEqDiff, Go.Addr.add, ↓reduceIte] at hw252_0)
                  obtain rfl : ad251 = ad252 := (by injection e252)
                  (try simp only [show (2 : Int).toNat = 2 from rfl, Nat.reduceMul, Nat.reduceEqDiff, Go.Addr.add, ↓reduceIte] at hx252_0)
                  have qi252 : (2 < l0.length) = True := eq_true (by omega)
                  (try rw [show ((2 : Int)).toNat = 2 from rfl] at hx252_0)
                  replace hx252_0 := (HB.out.cell (World.block_lt_of_cell? w _ hx252_0)).trans hx252_0
                  replace p252 := eq_true p252
                  replace q252 := eq_true q252
                  have p253 : 0 ≤ (3 : Int) := (by omega)
                  have q253 : 3 < (l0.length : Int) := of_decide_eq_true (by first | (with_reducible assumption) | assumption)
                  obtain ⟨ad253, e253, hx253_0⟩ := Kd.at_int HR0.out 3 p253 q253
                  have hw253_0 := hx253_0
                  (try rw [show ((3 : Int)).toNat = 3 from rfl] at hw253_0)
                  (try rw [show 3 * 1 = 3 from rfl] at hw253_0)
                  (try simp only [Nat.reduceMul, Nat.reduceEqDiff, Go.Addr.add, ↓reduceIte] at hw253_0)
                  obtain rfl : ad251 = ad253 := (by injection e253)
                  (try simp only [show (3 : Int).toNat = 3 from rfl, Nat.reduceMul, Nat.reduceEqDiff, Go.Addr.add, ↓reduceIte] at hx253_0)
                  have qi253 : (3 < l0.length) = True := eq_true (by omega)
                  (try rw [show ((3 : Int)).toNat = 3 from rfl] at hx253_0)
                  replace hx253_0 := (HB.out.cell (World.block_lt_of_cell? w _ hx253_0)).trans hx253_0
                  replace p253 := eq_true p253
                  replace q253 := eq_true q253
                  have p254 : 0 ≤ (1 : Int) := (by omega)
                  have q254 : 1 < (l0.length : Int) := of_decide_eq_true (by first | (with_reducible assumption) | assumption)
                  obtain ⟨ad254, e254, hx254_0⟩ := Kd.at_int HR0.out 1 p254 q254
                  have hw254_0 := hx254_0
                  (try rw [show ((1 : Int)).toNat = 1 from rfl] at hw254_0)
                  (try rw [show 1 * 1 = 1 from rfl] at hw254_0)
                  (try simp only [Nat.reduceMul, Nat.reduceEqDiff, Go.Addr.add, ↓reduceIte] at hw254_0)
                  obtain rfl : ad251 = ad254 := (by injection e254)
                  (try simp only [show (1 : Int).toNat = 1 from rfl, Nat.reduceMul, Nat.reduceEqDiff, Go.Addr.add, ↓reduceIte] at hx254_0)
                  have qi254 : (1 < l0.length) = True := eq_true (by omega)
                  (try rw [show ((1 : Int)).toNat = 1 from rfl] at hx254_0)
                  replace hx254_0 := (HB.out.cell (World.block_lt_of_cell? w _ hx254_0)).trans hx254_0
                  replace p254 := eq_true p254
                  replace q254 := eq_true q254
                  refine start_ (n := 24) (S := fun w' => w'.cell? ⟨ad251.block, ad251.off + 1, none⟩ = some (.int .u8 (rd l0 1)) ∧ w'.cell? ⟨ad251.block, ad251.off + 2, none⟩ = some (.int .u8 (rd l0 2)) ∧ w'.cell? ⟨ad251.block, ad251.off + 3, none⟩ = some (.int .u8 (rd l0 3)) ∧ w'.cell? ⟨ad251.block, ad251.off + 1, none⟩ = some (.int .u8 (rd l0 1))) (ds := []) #[false, false, false, false, false, false, false, false, false, false, false, false, false, false, false, false, false, false, false, false, false, false, false, false] (by kernel_rfl) rfl rfl ⟨((HB.out.cell (World.block_lt_of_cell? w _ hw251_0)).trans hw251_0), ((HB.out.cell (World.block_lt_of_cell? w _ hw252_0)).trans hw252_0), ((HB.out.cell (World.block_lt_of_cell? w _ hw253_0)).trans hw253_0), ((HB.out.cell (World.block_lt_of_cell? w _ hw254_0)).trans hw254_0)⟩ (fun hHeld => ?_); refine with_tabW transport_read.tab1 transport_read.bits1 (fun HT_ HW_ => ?_)
                  generalize w38.drew = w39 at BK250 HB hx251_0 hx252_0 hx253_0 hx254_0 hHeld ⊢
                  refine pure_ (i := 0) (N := some 7) (v := ?_) (a' := ?_) #[T', F', F', F', F', F', F', F', F', F', F', F', F', F', F', F', F', F', F', F', F', F', F', F'] rfl rfl (any_of HT_.out (by kernel_rfl)) (fun _ _ _ h => h) (Or.inl ⟨by rfl, ?_⟩) ?_ ?_;rotate_left;(intro w';go_simp;with_reducible rfl);rotate_left;(simp only [Act.put, sA, sZ, sS, i64_w, i32_w];rfl)
                  refine pure_ (i := 1) (N := some 8) (v := ?_) (a' := ?_) #[T', T', F', F', F', F', F', F', F', F', F', F', F', F', F', F', F', F', F', F', F', F', F', F'] rfl rfl (any_of HT_.out (by kernel_rfl)) (fun _ _ _ h => h) (Or.inl ⟨by rfl, ?_⟩) ?_ ?_;rotate_left;(intro w';go_simp;with_reducible rfl);rotate_left;(simp only [Act.put, sA, sZ, sS, i64_w, i32_w];rfl)
                  refine pure_ (i := 6) (N := some 13) (v := ?_) (a' := ?_) #[T', T', F', F', F', F', T', F', F', F', F', F', F', F', F', F', F', F', F', F', F', F', F', F'] rfl rfl (any_of HT_.out (by kernel_rfl)) (fun _ _ _ h => h) (Or.inl ⟨by rfl, ?_⟩) ?_ ?_;rotate_left;(intro w';go_simp;with_reducible rfl);rotate_left;(simp only [Act.put, sA, sZ, sS, i64_w, i32_w];rfl)
                  refine pure_ (i := 7) (N := some 14) (v := ?_) (a' := ?_) #[T', T', F', F', F', F', T', T', F', F', F', F', F', F', F', F', F', F', F', F', F', F', F', F'] rfl rfl (any_of HT_.out (by kernel_rfl)) (fun _ _ _ h => h) (Or.inl ⟨by rfl, ?_⟩) ?_ ?_;rotate_left;(intro w';go_simp;with_reducible rfl);rotate_left;(simp only [Act.put, sA, sZ, sS, i64_w, i32_w];rfl)
                  refine pure_ (i := 11) (N := some 18) (v := ?_) (a' := ?_) #[T', T', F', F', F', F', T', T', F', F', F', T', F', F', F', F', F', F', F', F', F', F', F', F'] rfl rfl (any_of HT_.out (by kernel_rfl)) (fun _ _ _ h => h) (Or.inl ⟨by rfl, ?_⟩) ?_ ?_;rotate_left;(intro w';go_simp;with_reducible rfl);rotate_left;(simp only [Act.put, sA, sZ, sS, i64_w, i32_w];rfl)
                  refine pure_ (i := 12) (N := some 19) (v := ?_) (a' := ?_) #[T', T', F', F', F', F', T', T', F', F', F', T', T', F', F', F', F', F', F', F', F', F', F', F'] rfl rfl (any_of HT_.out (by kernel_rfl)) (fun _ _ _ h => h) (Or.inl ⟨by rfl, ?_⟩) ?_ ?_;rotate_left;(intro w';go_simp;with_reducible rfl);rotate_left;(simp only [Act.put, sA, sZ, sS, i64_w, i32_w];rfl)
                  refine pure_ (i := 16) (N := some 23) (v := ?_) (a' := ?_) #[T', T', F', F', F', F', T', T', F', F', F', T', T', F', F', F', T', F', F', F', F', F', F', F'] rfl rfl (any_of HT_.out (by kernel_rfl)) (fun _ _ _ h => h) (Or.inl ⟨by rfl, ?_⟩) ?_ ?_;rotate_left;(intro w';go_simp;with_reducible rfl);rotate_left;(simp only [Act.put, sA, sZ, sS, i64_w, i32_w];rfl)
                  refine pure_ (i := 17) (N := some 24) (v := ?_) (a' := ?_) #[T', T', F', F', F', F', T', T', F', F', F', T', T', F', F', F', T', T', F', F', F', F', F', F'] rfl rfl (any_of HT_.out (by kernel_rfl)) (fun _ _ _ h => h) (Or.inl ⟨by rfl, ?_⟩) ?_ ?_;rotate_left;(intro w';go_simp;with_reducible rfl);rotate_left;(simp only [Act.put, sA, sZ, sS, i64_w, i32_w];rfl)
                  refine take_ (i := 2) (N := some 9) (v := ?_) (a' := ?_) #[T', T', T', F', F', F', T', T', F', F', F', T', T', F', F', F', T', T', F', F', F', F', F', F'] rfl rfl (take_ofW HT_.out HW_.out (by kernel_rfl)) (fun _ _ _ h => h) (Or.inl ⟨by rfl, ?_⟩) hHeld ?_ ?_;rotate_left;(rintro w' ⟨s0, s1, s2, s3⟩;go_simp;with_reducible rfl);rotate_left;(simp only [Act.put, sA, sZ, sS, i64_w, i32_w];rfl)
                  refine pure_ (i := 3) (N := some 10) (v := ?_) (a' := ?_) #[T', T', T', T', F', F', T', T', F', F', F', T', T', F', F', F', T', T', F', F', F', F', F', F'] rfl rfl (any_of HT_.out (by kernel_rfl)) (fun _ _ _ h => h) (Or.inl ⟨by rfl, ?_⟩) ?_ ?_;rotate_left;(intro w';go_simp;with_reducible rfl);rotate_left;(simp only [Act.put, sA, sZ, sS, i64_w, i32_w];rfl)
                  refine pure_ (i := 4) (N := some 11) (v := ?_) (a' := ?_) #[T', T', T', T', T', F', T', T', F', F', F', T', T', F', F', F', T', T', F', F', F', F', F', F'] rfl rfl (any_of HT_.out (by kernel_rfl)) (fun _ _ _ h => h) (Or.inl ⟨by rfl, ?_⟩) ?_ ?_;rotate_left;(intro w';go_simp;with_reducible rfl);rotate_left;(simp only [Act.put, sA, sZ, sS, i64_w, i32_w];rfl)
                  refine pure_ (i := 5) (N := some 12) (v := ?_) (a' := ?_) #[T', T', T', T', T', T', T', T', F', F', F', T', T', F', F', F', T', T', F', F', F', F', F', F'] rfl rfl (any_of HT_.out (by kernel_rfl)) (fun _ _ _ h => h) (Or.inl ⟨by rfl, ?_⟩) ?_ ?_;rotate_left;(intro w';go_simp;with_reducible rfl);rotate_left;(simp only [Act.put, sA, sZ, sS, i64_w, i32_w];rfl)
                  refine take_ (i := 8) (N := some 15) (v := ?_) (a' := ?_) #[T', T', T', T', T', T', T', T', T', F', F', T', T', F', F', F', T', T', F', F', F', F', F', F'] rfl rfl (take_ofW HT_.out HW_.out (by kernel_rfl)) (fun _ _ _ h => h) (Or.inl ⟨by rfl, ?_⟩) hHeld ?_ ?_;rotate_left;(rintro w' ⟨s0, s1, s2, s3⟩;go_simp;with_reducible rfl);rotate_left;(simp only [Act.put, sA, sZ, sS, i64_w, i32_w];rfl)
                  refine pure_ (i := 9) (N := some 16) (v := ?_) (a' := ?_) #[T', T', T', T', T', T', T', T', T', T', F', T', T', F', F', F', T', T', F', F', F', F', F', F'] rfl rfl (any_of HT_.out (by kernel_rfl)) (fun _ _ _ h => h) (Or.inl ⟨by rfl, ?_⟩) ?_ ?_;rotate_left;(intro w';go_simp;with_reducible rfl);rotate_left;(simp only [Act.put, sA, sZ, sS, i64_w, i32_w];rfl)
                  refine pure_ (i := 10) (N := some 17) (v := ?_) (a' := ?_) #[T', T', T', T', T', T', T', T', T', T', T', T', T', F', F', F', T', T', F', F', F', F', F', F'] rfl rfl (any_of HT_.out (by kernel_rfl)) (fun _ _ _ h => h) (Or.inl ⟨by rfl, ?_⟩) ?_ ?_;rotate_left;(intro w';go_simp;with_reducible rfl);rotate_left;(simp only [Act.put, sA, sZ, sS, i64_w, i32_w];rfl)
                  refine take_ (i := 13) (N := some 20) (v := ?_) (a' := ?_) #[T', T', T', T', T', T', T', T', T', T', T', T', T', T', F', F', T', T', F', F', F', F', F', F'] rfl rfl (take_ofW HT_.out HW_.out (by kernel_rfl)) (fun _ _ _ h => h) (Or.inl ⟨by rfl, ?_⟩) hHeld ?_ ?_;rotate_left;(rintro w' ⟨s0, s1, s2, s3⟩;go_simp;with_reducible rfl);rotate_left;(simp only [Act.put, sA, sZ, sS, i64_w, i32_w];rfl)
                  refine pure_ (i := 14) (N := some 21) (v := ?_) (a' := ?_) #[T', T', T', T', T', T', T', T', T', T', T', T', T', T', T', F', T', T', F', F', F', F', F', F'] rfl rfl (any_of HT_.out (by kernel_rfl)) (fun _ _ _ h => h) (Or.inl ⟨by rfl, ?_⟩) ?_ ?_;rotate_left;(intro w';go_simp;with_reducible rfl);rotate_left;(simp only [Act.put, sA, sZ, sS, i64_w, i32_w];rfl)
                  refine pure_ (i := 15) (N := some 22) (v := ?_) (a' := ?_) #[T', T', T', T', T', T', T', T', T', T', T', T', T', T', T', T', T', T', F', F', F', F', F', F'] rfl rfl (any_of HT_.out (by kernel_rfl)) (fun _ _ _ h => h) (Or.inl ⟨by rfl, ?_⟩) ?_ ?_;rotate_left;(intro w';go_simp;with_reducible rfl);rotate_left;(simp only [Act.put, sA, sZ, sS, i64_w, i32_w];rfl)
                  refine take_ (i := 18) (N := some 25) (v := ?_) (a' := ?_) #[T', T', T', T', T', T', T', T', T', T', T', T', T', T', T', T', T', T', T', F', F', F', F', F'] rfl rfl (take_ofW HT_.out HW_.out (by kernel_rfl)) (fun _ _ _ h => h) (Or.inl ⟨by rfl, ?_⟩) hHeld ?_ ?_;rotate_left;(rintro w' ⟨s0, s1, s2, s3⟩;go_simp;with_reducible rfl);rotate_left;(simp only [Act.put, sA, sZ, sS, i64_w, i32_w];rfl)
                  refine pure_ (i := 19) (N := some 26) (v := ?_) (a' := ?_) #[T', T', T', T', T', T', T', T', T', T', T', T', T', T', T', T', T', T', T', T', F', F', F', F'] rfl rfl (any_of HT_.out (by kernel_rfl)) (fun _ _ _ h => h) (Or.inl ⟨by rfl, ?_⟩) ?_ ?_;rotate_left;(intro w';go_simp;with_reducible rfl);rotate_left;(simp only [Act.put, sA, sZ, sS, i64_w, i32_w];rfl)
                  refine pure_ (i := 20) (N := some 27) (v := ?_) (a' := ?_) #[T', T', T', T', T', T', T', T', T', T', T', T', T', T', T', T', T', T', T', T', T', F', F', F'] rfl rfl (any_of HT_.out (by kernel_rfl)) (fun _ _ _ h => h) (Or.inl ⟨by rfl, ?_⟩) ?_ ?_;rotate_left;(intro w';go_simp;with_reducible rfl);rotate_left;(simp only [Act.put, sA, sZ, sS, i64_w, i32_w];rfl)
                  refine pure_ (i := 21) (N := some 28) (v := ?_) (a' := ?_) #[T', T', T', T', T', T', T', T', T', T', T', T', T', T', T', T', T', T', T', T', T', T', F', F'] rfl rfl (any_of HT_.out (by kernel_rfl)) (fun _ _ _ h => h) (Or.inl ⟨by rfl, ?_⟩) ?_ ?_;rotate_left;(intro w';go_simp;with_reducible rfl);rotate_left;(simp only [Act.put, sA, sZ, sS, i64_w, i32_w];rfl)
                  refine one_ (i := 22) (N := some 3) #[T', T', T', T', T', T', T', T', T', T', T', T', T', T', T', T', T', T', T', T', T', T', T', F'] rfl rfl (one_of HT_.out (by kernel_rfl)) (by decide) (fun K hK => ?_)
                  refine box_step ?hg (N := 3) ?hd (cs := #[.int .i64 0, .int .i64 0, .bool false, .int .i64 0, .slice none 0 0]) (t := 28) ?hr ?_; (case hd => rfl); (case hg => rfl); (case hr => first | (go_simp; done) | (go_simp; rfl))
                  intro gb255 hg w40 hbox hb
                  have n0_ := Aside0.mk (yB (g := gb250) (o := .cells #[.int .i64 0, .int .i64 0, .bool false, .int .i64 0, .slice none 0 0] 28 (0, 0)) (by (with_reducible repeat (first | refine yN ?_ _ | refine yD ?_ | refine yA ?_ _)); exact BK250.out) hb)
                  have n1_ := Aside0.mk (zT (by repeat (first | (with_reducible first | exact HB.out | apply zA | apply zN | apply zD | refine zP ?_ GE250.out) | exact HB.out)) hb)
                  have n2_ := Aside0.mk (hbox)
                  have n3_ := Aside0.mk ((by rw [hg]; exact (zS (by repeat (first | (with_reducible first | exact HB.out | apply zA | apply zN | apply zD | refine zP ?_ GE250.out) | exact HB.out))) : w.heap.size ≤ gb255))
                  have n4_ := Aside0.mk ((by rw [hg]; exact (zS (by repeat (first | (with_reducible first | exact HB.out | apply zA | apply zN | apply zD | refine zP ?_ GE250.out) | exact HB.out))) : w.heap.size ≤ gb255))
                  have n5_ := Aside0.mk ((by rw [hg]; exact Nat.ne_of_lt (blk_lt (g := gb250) (o := .cells #[.int .i64 0, .int .i64 0, .bool false, .int .i64 0, .slice none 0 0] 28 (0, 0)) (by (with_reducible repeat (first | refine yN ?_ _ | refine yD ?_ | refine yA ?_ _)); exact BK250.out)) : gb250 ≠ gb255))
                  have n6_ := Aside0.mk ((by rw [hg]; exact Nat.ne_of_gt (blk_lt (g := gb250) (o := .cells #[.int .i64 0, .int .i64 0, .bool false, .int .i64 0, .slice none 0 0] 28 (0, 0)) (by (with_reducible repeat (first | refine yN ?_ _ | refine yD ?_ | refine yA ?_ _)); exact BK250.out)) : gb255 ≠ gb250))
                  clear BK250
                  clear HB
                  have BK250 := n0_
                  have HB := n1_
                  have BK255 := n2_
                  have GW255 := n3_
                  have GE255 := n4_
                  have NB250_255 := n5_
                  have NB255_250 := n6_
                  clear n0_ n1_ n2_ n3_ n4_ n5_ n6_
                  clear hb hbox hg
                  refine hK.out _ _ ⟨((HB.out.cell (World.block_lt_of_cell? w _ hw251_0)).trans hw251_0), ((HB.out.cell (World.block_lt_of_cell? w _ hw252_0)).trans hw252_0), ((HB.out.cell (World.block_lt_of_cell? w _ hw253_0)).trans hw253_0), ((HB.out.cell (World.block_lt_of_cell? w _ hw254_0)).trans hw254_0)⟩ (fun hHeld => ?_)
                  clear hK K
                  refine norm_ (a' := ?_) ?_ ?_
                  rotate_left
                  ·show Act.put _ (some 3) _ = _
                   simp only [Act.put, sA, sZ, sS, i64_w, i32_w]
                   rfl
                  refine one_ (i := 23) (N := none) #[T', T', T', T', T', T', T', T', T', T', T', T', T', T', T', T', T', T', T', T', T', T', T', T'] rfl rfl (one_of HT_.out (by kernel_rfl)) (by decide) (fun K hK => ?_)
                  have hs41 : w40.cell? ⟨gb255, 0, none⟩ = some (.int .i64 0) := (blk_cell BK255.out 0).trans rfl
                  have hfs41 := blk_frozen BK255.out 0
                  have hns41_0 := NB250_255.out
                  have hms41_0 := NB255_250.out
                  have hs42 : w40.cell? ⟨gb255, 1, none⟩ = some (.int .i64 0) := (blk_cell BK255.out 1).trans rfl
                  have hfs42 := blk_frozen BK255.out 1
                  have hns42_0 := NB250_255.out
                  have hms42_0 := NB255_250.out
                  have hs43 : w40.cell? ⟨gb255, 2, none⟩ = some (.bool false) := (blk_cell BK255.out 2).trans rfl
                  have hfs43 := blk_frozen BK255.out 2
                  have hns43_0 := NB250_255.out
                  have hms43_0 := NB255_250.out
                  have hs44 : w40.cell? ⟨gb255, 3, none⟩ = some (.int .i64 0) := (blk_cell BK255.out 3).trans rfl
                  have hfs44 := blk_frozen BK255.out 3
                  have hns44_0 := NB250_255.out
                  have hms44_0 := NB255_250.out
                  have hs45 : w40.cell? ⟨gb255, 4, none⟩ = some (.slice none 0 0) := (blk_cell BK255.out 4).trans rfl
                  have hfs45 := blk_frozen BK255.out 4
                  have hns45_0 := NB250_255.out
                  have hms45_0 := NB255_250.out
                  refine skip_ (w1 := ?_) (by rfl) rfl ?_ ?_
                  rotate_left
                  ·go_simp
                   rfl
                  refine hK.out _ _ ⟨((xF (p := ⟨gb255, _, none⟩) (by first | exact nE38 hw251_0 GW255.out | exact nF38 hw251_0 GW255.out | (rw [xB]; exact nE38 hw251_0 GW255.out) | (rw [xB]; exact nF38 hw251_0 GW255.out)) _).trans (((xF (p := ⟨gb255, _, none⟩) (by first | exact nE38 hw251_0 GW255.out | exact nF38 hw251_0 GW255.out | (rw [xB]; exact nE38 hw251_0 GW255.out) | (rw [xB]; exact nF38 hw251_0 GW255.out)) _).trans (((xF (p := ⟨gb255, _, none⟩) (by first | exact nE38 hw251_0 GW255.out | exact nF38 hw251_0 GW255.out | (rw [xB]; exact nE38 hw251_0 GW255.out) | (rw [xB]; exact nF38 hw251_0 GW255.out)) _).trans (((xF (p := ⟨gb255, _, none⟩) (by first | exact nE38 hw251_0 GW255.out | exact nF38 hw251_0 GW255.out | (rw [xB]; exact nE38 hw251_0 GW255.out) | (rw [xB]; exact nF38 hw251_0 GW255.out)) _).trans (((xF (p := ⟨gb255, _, none⟩) (by first | exact nE38 hw251_0 GW255.out | exact nF38 hw251_0 GW255.out | (rw [xB]; exact nE38 hw251_0 GW255.out) | (rw [xB]; exact nF38 hw251_0 GW255.out)) _).trans (hHeld.1)))))))))), ((xF (p := ⟨gb255, _, none⟩) (by first | exact nE38 hw252_0 GW255.out | exact nF38 hw252_0 GW255.out | (rw [xB]; exact nE38 hw252_0 GW255.out) | (rw [xB]; exact nF38 hw252_0 GW255.out)) _).trans (((xF (p := ⟨gb255, _, none⟩) (by first | exact nE38 hw252_0 GW255.out | exact nF38 hw252_0 GW255.out | (rw [xB]; exact nE38 hw252_0 GW255.out) | (rw [xB]; exact nF38 hw252_0 GW255.out)) _).trans (((xF (p := ⟨gb255, _, none⟩) (by first | exact nE38 hw252_0 GW255.out | exact nF38 hw252_0 GW255.out | (rw [xB]; exact nE38 hw252_0 GW255.out) | (rw [xB]; exact nF38 hw252_0 GW255.out)) _).trans (((xF (p := ⟨gb255, _, none⟩) (by first | exact nE38 hw252_0 GW255.out | exact nF38 hw252_0 GW255.out | (rw [xB]; exact nE38 hw252_0 GW255.out) | (rw [xB]; exact nF38 hw252_0 GW255.out)) _).trans (((xF (p := ⟨gb255, _, none⟩) (by first | exact nE38 hw252_0 GW255.out | exact nF38 hw252_0 GW255.out | (rw [xB]; exact nE38 hw252_0 GW255.out) | (rw [xB]; exact nF38 hw252_0 GW255.out)) _).trans (hHeld.2.1)))))))))), ((xF (p := ⟨gb255, _, none⟩) (by first | exact nE38 hw253_0 GW255.out | exact nF38 hw253_0 GW255.out | (rw [xB]; exact nE38 hw253_0 GW255.out) | (rw [xB]; exact nF38 hw253_0 GW255.out)) _).trans (((xF (p := ⟨gb255, _, none⟩) (by first | exact nE38 hw253_0 GW255.out | exact nF38 hw253_0 GW255.out | (rw [xB]; exact nE38 hw253_0 GW255.out) | (rw [xB]; exact nF38 hw253_0 GW255.out)) _).trans (((xF (p := ⟨gb255, _, none⟩) (by first | exact nE38 hw253_0 GW255.out | exact nF38 hw253_0 GW255.out | (rw [xB]; exact nE38 hw253_0 GW255.out) | (rw [xB]; exact nF38 hw253_0 GW255.out)) _).trans (((xF (p := ⟨gb255, _, none⟩) (by first | exact nE38 hw253_0 GW255.out | exact nF38 hw253_0 GW255.out | (rw [xB]; exact nE38 hw253_0 GW255.out) | (rw [xB]; exact nF38 hw253_0 GW255.out)) _).trans (((xF (p := ⟨gb255, _, none⟩) (by first | exact nE38 hw253_0 GW255.out | exact nF38 hw253_0 GW255.out | (rw [xB]; exact nE38 hw253_0 GW255.out) | (rw [xB]; exact nF38 hw253_0 GW255.out)) _).trans (hHeld.2.2.1)))))))))), ((xF (p := ⟨gb255, _, none⟩) (by first | exact nE38 hw254_0 GW255.out | exact nF38 hw254_0 GW255.out | (rw [xB]; exact nE38 hw254_0 GW255.out) | (rw [xB]; exact nF38 hw254_0 GW255.out)) _).trans (((xF (p := ⟨gb255, _, none⟩) (by first | exact nE38 hw254_0 GW255.out | exact nF38 hw254_0 GW255.out | (rw [xB]; exact nE38 hw254_0 GW255.out) | (rw [xB]; exact nF38 hw254_0 GW255.out)) _).trans (((xF (p := ⟨gb255, _, none⟩) (by first | exact nE38 hw254_0 GW255.out | exact nF38 hw254_0 GW255.out | (rw [xB]; exact nE38 hw254_0 GW255.out) | (rw [xB]; exact nF38 hw254_0 GW255.out)) _).trans (((xF (p := ⟨gb255, _, none⟩) (by first | exact nE38 hw254_0 GW255.out | exact nF38 hw254_0 GW255.out | (rw [xB]; exact nE38 hw254_0 GW255.out) | (rw [xB]; exact nF38 hw254_0 GW255.out)) _).trans (((xF (p := ⟨gb255, _, none⟩) (by first | exact nE38 hw254_0 GW255.out | exact nF38 hw254_0 GW255.out | (rw [xB]; exact nE38 hw254_0 GW255.out) | (rw [xB]; exact nF38 hw254_0 GW255.out)) _).trans (hHeld.2.2.2))))))))))⟩ (fun hHeld => ?_)
                  clear hK K
                  refine done_ (done_of HT_.out (by kernel_rfl)) ?_
                  have p256 : 0 ≤ (3 : Int) := (by omega)
                  have q256 : 3 < (l0.length : Int) := of_decide_eq_true (by first | (with_reducible assumption) | assumption)
                  obtain ⟨ad256, e256, hx256_0⟩ := Kd.at_int HR0.out 3 p256 q256
                  obtain rfl : ad251 = ad256 := (by injection e256)
                  (try simp only [show (3 : Int).toNat = 3 from rfl, Nat.reduceMul, Nat.reduceEqDiff, Go.Addr.add, ↓reduceIte] at hx256_0)
                  have qi256 : (3 < l0.length) = True := eq_true (by omega)
                  (try rw [show ((3 : Int)).toNat = 3 from rfl] at hx256_0)
                  have hn256_0 : ad251.block ≠ gb255 := Nat.ne_of_lt (Nat.lt_of_lt_of_le (by have := World.block_lt_of_cell? _ _ hx256_0; first | rwa [xB] at this | exact this) GW255.out)
                  have hn256_1 : ad251.block ≠ gb255 := Nat.ne_of_lt (Nat.lt_of_lt_of_le (by have := World.block_lt_of_cell? _ _ hx256_0; first | rwa [xB] at this | exact this) GW255.out)
                  have hn256_2 : ad251.block ≠ gb255 := Nat.ne_of_lt (Nat.lt_of_lt_of_le (by have := World.block_lt_of_cell? _ _ hx256_0; first | rwa [xB] at this | exact this) GW255.out)
                  have hn256_3 : ad251.block ≠ gb255 := Nat.ne_of_lt (Nat.lt_of_lt_of_le (by have := World.block_lt_of_cell? _ _ hx256_0; first | rwa [xB] at this | exact this) GW255.out)
                  have hn256_4 : ad251.block ≠ gb255 := Nat.ne_of_lt (Nat.lt_of_lt_of_le (by have := World.block_lt_of_cell? _ _ hx256_0; first | rwa [xB] at this | exact this) GW255.out)
                  replace hx256_0 := (HB.out.cell (World.block_lt_of_cell? w _ hx256_0)).trans hx256_0
                  replace hx256_0 := (xF (p := ⟨gb255, 0, none⟩) (by first | (rw [xB]; exact hn256_0) | (show (Addr.add _ _).block ≠ _; rw [xB]; exact hn256_0) | exact hn256_0) (.int .i64 (Go.bits .or .i64 (wrap64 ((wrap64 (Go.bits .and .u8 (rd l0 1) 31)) * 256)) (wrap64 (rd l0 2))))).trans hx256_0
                  replace hx256_0 := (xF (p := ⟨gb255, 1, none⟩) (by first | (rw [xB]; exact hn256_1) | (show (Addr.add _ _).block ≠ _; rw [xB]; exact hn256_1) | exact hn256_1) (.int .i64 (wrap64 (Go.bits .and .u8 (rd l0 3) 15)))).trans hx256_0
                  replace hx256_0 := (xF (p := ⟨gb255, 2, none⟩) (by first | (rw [xB]; exact hn256_2) | (show (Addr.add _ _).block ≠ _; rw [xB]; exact hn256_2) | exact hn256_2) (.bool ((Go.bits .and .u8 (rd l0 1) 64) != 0))).trans hx256_0
                  replace hx256_0 := (xF (p := ⟨gb255, 3, none⟩) (by first | (rw [xB]; exact hn256_3) | (show (Addr.add _ _).block ≠ _; rw [xB]; exact hn256_3) | exact hn256_3) (.int .i64 (-1))).trans hx256_0
                  replace hx256_0 := (xF (p := ⟨gb255, 4, none⟩) (by first | (rw [xB]; exact hn256_4) | (show (Addr.add _ _).block ≠ _; rw [xB]; exact hn256_4) | exact hn256_4) (.slice none 0 0)).trans hx256_0
                  clear hn256_0
                  clear hn256_1
                  clear hn256_2
                  clear hn256_3
                  clear hn256_4
                  replace p256 := eq_true p256
                  replace q256 := eq_true q256
                  have p261 : 0 ≤ (4 : Int) := (by omega)
                  have q261 : 4 < (l0.length : Int) := of_decide_eq_true (by first | (with_reducible assumption) | assumption)
                  obtain ⟨ad261, e261, hx261_0⟩ := Kd.at_int HR0.out 4 p261 q261
                  obtain rfl : ad251 = ad261 := (by injection e261)
                  (try simp only [show (4 : Int).toNat = 4 from rfl, Nat.reduceMul, Nat.reduceEqDiff, Go.Addr.add, ↓reduceIte] at hx261_0)
                  have qi261 : (4 < l0.length) = True := eq_true (by omega)
                  (try rw [show ((4 : Int)).toNat = 4 from rfl] at hx261_0)
                  have hn261_0 : ad251.block ≠ gb255 := Nat.ne_of_lt (Nat.lt_of_lt_of_le (by have := World.block_lt_of_cell? _ _ hx261_0; first | rwa [xB] at this | exact this) GW255.out)
                  have hn261_1 : ad251.block ≠ gb255 := Nat.ne_of_lt (Nat.lt_of_lt_of_le (by have := World.block_lt_of_cell? _ _ hx261_0; first | rwa [xB] at this | exact this) GW255.out)
                  have hn261_2 : ad251.block ≠ gb255 := Nat.ne_of_lt (Nat.lt_of_lt_of_le (by have := World.block_lt_of_cell? _ _ hx261_0; first | rwa [xB] at this | exact this) GW255.out)
                  have hn261_3 : ad251.block ≠ gb255 := Nat.ne_of_lt (Nat.lt_of_lt_of_le (by have := World.block_lt_of_cell? _ _ hx261_0; first | rwa [xB] at this | exact this) GW255.out)
                  have hn261_4 : ad251.block ≠ gb255 := Nat.ne_of_lt (Nat.lt_of_lt_of_le (by have := World.block_lt_of_cell? _ _ hx261_0; first | rwa [xB] at this | exact this) GW255.out)
                  replace hx261_0 := (HB.out.cell (World.block_lt_of_cell? w _ hx261_0)).trans hx261_0
                  replace hx261_0 := (xF (p := ⟨gb255, 0, none⟩) (by first | (rw [xB]; exact hn261_0) | (show (Addr.add _ _).block ≠ _; rw [xB]; exact hn261_0) | exact hn261_0) (.int .i64 (Go.bits .or .i64 (wrap64 ((wrap64 (Go.bits .and .u8 (rd l0 1) 31)) * 256)) (wrap64 (rd l0 2))))).trans hx261_0
                  replace hx261_0 := (xF (p := ⟨gb255, 1, none⟩) (by first | (rw [xB]; exact hn261_1) | (show (Addr.add _ _).block ≠ _; rw [xB]; exact hn261_1) | exact hn261_1) (.int .i64 (wrap64 (Go.bits .and .u8 (rd l0 3) 15)))).trans hx261_0
                  replace hx261_0 := (xF (p := ⟨gb255, 2, none⟩) (by first | (rw [xB]; exact hn261_2) | (show (Addr.add _ _).block ≠ _; rw [xB]; exact hn261_2) | exact hn261_2) (.bool ((Go.bits .and .u8 (rd l0 1) 64) != 0))).trans hx261_0
                  replace hx261_0 := (xF (p := ⟨gb255, 3, none⟩) (by first | (rw [xB]; exact hn261_3) | (show (Addr.add _ _).block ≠ _; rw [xB]; exact hn261_3) | exact hn261_3) (.int .i64 (-1))).trans hx261_0
                  replace hx261_0 := (xF (p := ⟨gb255, 4, none⟩) (by first | (rw [xB]; exact hn261_4) | (show (Addr.add _ _).block ≠ _; rw [xB]; exact hn261_4) | exact hn261_4) (.slice none 0 0)).trans hx261_0
                  clear hn261_0
                  clear hn261_1
                  clear hn261_2
                  clear hn261_3
                  clear hn261_4
                  replace p261 := eq_true p261
                  replace q261 := eq_true q261
                  have p262 : 0 ≤ (5 : Int) := (by omega)
                  have q262 : 5 < (l0.length : Int) := of_decide_eq_true (by first | (with_reducible assumption) | assumption)
                  obtain ⟨ad262, e262, hx262_0⟩ := Kd.at_int HR0.out 5 p262 q262
                  obtain rfl : ad251 = ad262 := (by injection e262)
                  (try simp only [show (5 : Int).toNat = 5 from rfl, Nat.reduceMul, Nat.reduceEqDiff, Go.Addr.add, ↓reduceIte] at hx262_0)
                  have qi262 : (5 < l0.length) = True := eq_true (by omega)
                  (try rw [show ((5 : Int)).toNat = 5 from rfl] at hx262_0)
                  have hn262_0 : ad251.block ≠ gb255 := Nat.ne_of_lt (Nat.lt_of_lt_of_le (by have := World.block_lt_of_cell? _ _ hx262_0; first | rwa [xB] at this | exact this) GW255.out)
                  have hn262_1 : ad251.block ≠ gb255 := Nat.ne_of_lt (Nat.lt_of_lt_of_le (by have := World.block_lt_of_cell? _ _ hx262_0; first | rwa [xB] at this | exact this) GW255.out)
                  have hn262_2 : ad251.block ≠ gb255 := Nat.ne_of_lt (Nat.lt_of_lt_of_le (by have := World.block_lt_of_cell? _ _ hx262_0; first | rwa [xB] at this | exact this) GW255.out)
                  have hn262_3 : ad251.block ≠ gb255 := Nat.ne_of_lt (Nat.lt_of_lt_of_le (by have := World.block_lt_of_cell? _ _ hx262_0; first | rwa [xB] at this | exact this) GW255.out)
                  have hn262_4 : ad251.block ≠ gb255 := Nat.ne_of_lt (Nat.lt_of_lt_of_le (by have := World.block_lt_of_cell? _ _ hx262_0; first | rwa [xB] at this | exact this) GW255.out)
                  replace hx262_0 := (HB.out.cell (World.block_lt_of_cell? w _ hx262_0)).trans hx262_0
                  replace hx262_0 := (xF (p := ⟨gb255, 0, none⟩) (by first | (rw [xB]; exact hn262_0) | (show (Addr.add _ _).block ≠ _; rw [xB]; exact hn262_0) | exact hn262_0) (.int .i64 (Go.bits .or .i64 (wrap64 ((wrap64 (Go.bits .and .u8 (rd l0 1) 31)) * 256)) (wrap64 (rd l0 2))))).trans hx262_0
                  replace hx262_0 := (xF (p := ⟨gb255, 1, none⟩) (by first | (rw [xB]; exact hn262_1) | (show (Addr.add _ _).block ≠ _; rw [xB]; exact hn262_1) | exact hn262_1) (.int .i64 (wrap64 (Go.bits .and .u8 (rd l0 3) 15)))).trans hx262_0
                  replace hx262_0 := (xF (p := ⟨gb255, 2, none⟩) (by first | (rw [xB]; exact hn262_2) | (show (Addr.add _ _).block ≠ _; rw [xB]; exact hn262_2) | exact hn262_2) (.bool ((Go.bits .and .u8 (rd l0 1) 64) != 0))).trans hx262_0
                  replace hx262_0 := (xF (p := ⟨gb255, 3, none⟩) (by first | (rw [xB]; exact hn262_3) | (show (Addr.add _ _).block ≠ _; rw [xB]; exact hn262_3) | exact hn262_3) (.int .i64 (-1))).trans hx262_0
                  replace hx262_0 := (xF (p := ⟨gb255, 4, none⟩) (by first | (rw [xB]; exact hn262_4) | (show (Addr.add _ _).block ≠ _; rw [xB]; exact hn262_4) | exact hn262_4) (.slice none 0 0)).trans hx262_0
                  clear hn262_0
                  clear hn262_1
                  clear hn262_2
                  clear hn262_3
                  clear hn262_4
                  replace p262 := eq_true p262
                  replace q262 := eq_true q262
                  try go_wp2
                  have n0_ : Aside0 ((((((w40.setCell ⟨gb255, 0, none⟩ (.int .i64 (Go.bits .or .i64 (wrap64 ((wrap64 (Go.bits .and .u8 (rd l0 1) 31)) * 256)) (wrap64 (rd l0 2))))).setCell ⟨gb255, 1, none⟩ (.int .i64 (wrap64 (Go.bits .and .u8 (rd l0 3) 15)))).setCell ⟨gb255, 2, none⟩ (.bool ((Go.bits .and .u8 (rd l0 1) 64) != 0))).setCell ⟨gb255, 3, none⟩ (.int .i64 (-1))).setCell ⟨gb255, 4, none⟩ (.slice none 0 0)).heap[gb250]? = some (.cells #[.int .i64 0, .int .i64 0, .bool false, .int .i64 0, .slice none 0 0] 28 (0, 0))) := ⟨by (with_reducible repeat (first | refine yN ?_ _ | refine yD ?_ | refine yA ?_ _)); refine blk_far ?_ NB250_255.out _; (with_reducible repeat (first | refine yN ?_ _ | refine yD ?_ | refine yA ?_ _)); refine blk_far ?_ NB250_255.out _; (with_reducible repeat (first | refine yN ?_ _ | refine yD ?_ | refine yA ?_ _)); refine blk_far ?_ NB250_255.out _; (with_reducible repeat (first | refine yN ?_ _ | refine yD ?_ | refine yA ?_ _)); refine blk_far ?_ NB250_255.out _; (with_reducible repeat (first | refine yN ?_ _ | refine yD ?_ | refine yA ?_ _)); refine blk_far ?_ NB250_255.out _; (with_reducible repeat (first | refine yN ?_ _ | refine yD ?_ | refine yA ?_ _)); exact BK250.out⟩
                  have n1_ : Aside0 ((((((w40.setCell ⟨gb255, 0, none⟩ (.int .i64 (Go.bits .or .i64 (wrap64 ((wrap64 (Go.bits .and .u8 (rd l0 1) 31)) * 256)) (wrap64 (rd l0 2))))).setCell ⟨gb255, 1, none⟩ (.int .i64 (wrap64 (Go.bits .and .u8 (rd l0 3) 15)))).setCell ⟨gb255, 2, none⟩ (.bool ((Go.bits .and .u8 (rd l0 1) 64) != 0))).setCell ⟨gb255, 3, none⟩ (.int .i64 (-1))).setCell ⟨gb255, 4, none⟩ (.slice none 0 0)).heap[gb255]? = some (.cells #[.int .i64 (Go.bits .or .i64 (wrap64 ((wrap64 (Go.bits .and .u8 (rd l0 1) 31)) * 256)) (wrap64 (rd l0 2))), .int .i64 (wrap64 (Go.bits .and .u8 (rd l0 3) 15)), .bool ((Go.bits .and .u8 (rd l0 1) 64) != 0), .int .i64 (-1), .slice none 0 0] 28 (0, 0))) := ⟨by (with_reducible repeat (first | refine yN ?_ _ | refine yD ?_ | refine yA ?_ _)); refine blk_put (cs := #[.int .i64 (Go.bits .or .i64 (wrap64 ((wrap64 (Go.bits .and .u8 (rd l0 1) 31)) * 256)) (wrap64 (rd l0 2))), .int .i64 (wrap64 (Go.bits .and .u8 (rd l0 3) 15)), .bool ((Go.bits .and .u8 (rd l0 1) 64) != 0), .int .i64 (-1), .slice none 0 0]) ?_ 4 _ rfl; (with_reducible repeat (first | refine yN ?_ _ | refine yD ?_ | refine yA ?_ _)); refine blk_put (cs := #[.int .i64 (Go.bits .or .i64 (wrap64 ((wrap64 (Go.bits .and .u8 (rd l0 1) 31)) * 256)) (wrap64 (rd l0 2))), .int .i64 (wrap64 (Go.bits .and .u8 (rd l0 3) 15)), .bool ((Go.bits .and .u8 (rd l0 1) 64) != 0), .int .i64 0, .slice none 0 0]) ?_ 3 _ rfl; (with_reducible repeat (first | refine yN ?_ _ | refine yD ?_ | refine yA ?_ _)); refine blk_put (cs := #[.int .i64 (Go.bits .or .i64 (wrap64 ((wrap64 (Go.bits .and .u8 (rd l0 1) 31)) * 256)) (wrap64 (rd l0 2))), .int .i64 (wrap64 (Go.bits .and .u8 (rd l0 3) 15)), .bool false, .int .i64 0, .slice none 0 0]) ?_ 2 _ rfl; (with_reducible repeat (first | refine yN ?_ _ | refine yD ?_ | refine yA ?_ _)); refine blk_put (cs := #[.int .i64 (Go.bits .or .i64 (wrap64 ((wrap64 (Go.bits .and .u8 (rd l0 1) 31)) * 256)) (wrap64 (rd l0 2))), .int .i64 0, .bool false, .int .i64 0, .slice none 0 0]) ?_ 1 _ rfl; (with_reducible repeat (first | refine yN ?_ _ | refine yD ?_ | refine yA ?_ _)); refine blk_put (cs := #[.int .i64 0, .int .i64 0, .bool false, .int .i64 0, .slice none 0 0]) ?_ 0 _ rfl; (with_reducible repeat (first | refine yN ?_ _ | refine yD ?_ | refine yA ?_ _)); exact BK255.out⟩
                  have n2_ : Aside0 (Below w.heap.size w (((((w40.setCell ⟨gb255, 0, none⟩ (.int .i64 (Go.bits .or .i64 (wrap64 ((wrap64 (Go.bits .and .u8 (rd l0 1) 31)) * 256)) (wrap64 (rd l0 2))))).setCell ⟨gb255, 1, none⟩ (.int .i64 (wrap64 (Go.bits .and .u8 (rd l0 3) 15)))).setCell ⟨gb255, 2, none⟩ (.bool ((Go.bits .and .u8 (rd l0 1) 64) != 0))).setCell ⟨gb255, 3, none⟩ (.int .i64 (-1))).setCell ⟨gb255, 4, none⟩ (.slice none 0 0))) := ⟨by repeat (first | (with_reducible first | exact HB.out | apply zA | apply zN | apply zD | refine zP ?_ GE250.out | refine zP ?_ GE255.out) | exact HB.out)⟩
                  (try clear BK250)
                  (try clear BK255)
                  (try clear HB)
                  generalize (((((w40.setCell ⟨gb255, 0, none⟩ (.int .i64 (Go.bits .or .i64 (wrap64 ((wrap64 (Go.bits .and .u8 (rd l0 1) 31)) * 256)) (wrap64 (rd l0 2))))).setCell ⟨gb255, 1, none⟩ (.int .i64 (wrap64 (Go.bits .and .u8 (rd l0 3) 15)))).setCell ⟨gb255, 2, none⟩ (.bool ((Go.bits .and .u8 (rd l0 1) 64) != 0))).setCell ⟨gb255, 3, none⟩ (.int .i64 (-1))).setCell ⟨gb255, 4, none⟩ (.slice none 0 0)) = w46 at n0_ n1_ n2_ ⊢
                  have BK250 := n0_
                  have BK255 := n1_
                  have HB := n2_
                  clear n0_ n1_ n2_
                  have n0_ := Aside0.mk (yD BK250.out)
                  have n1_ := Aside0.mk (yD BK255.out)
                  have n2_ := Aside0.mk (zD HB.out)
                  clear BK250
                  clear BK255
                  clear HB
                  have BK250 := n0_
                  have BK255 := n1_
                  have HB := n2_
                  clear n0_ n1_ n2_
                  have p263 : 0 ≤ (6 : Int) := (by omega)
                  have q263 : 6 < (l0.length : Int) := of_decide_eq_true (by first | (with_reducible assumption) | assumption)
                  obtain ⟨ad263, e263, hx263_0⟩ := Kd.at_int HR0.out 6 p263 q263
                  have hw263_0 := hx263_0
                  (try rw [show ((6 : Int)).toNat = 6 from rfl] at hw263_0)
                  (try rw [show 6 * 1 = 6 from rfl] at hw263_0)
                  (try simp only [Nat.reduceMul, Nat.reduceEqDiff, Go.Addr.add, ↓reduceIte] at hw263_0)
                  obtain rfl : ad251 = ad263 := (by injection e263)
                  (try simp only [show (6 : Int).toNat = 6 from rfl, Nat.reduceMul, Nat.reduceEqDiff, Go.Addr.add, ↓reduceIte] at hx263_0)
                  have qi263 : (6 < l0.length) = True := eq_true (by omega)
                  (try rw [show ((6 : Int)).toNat = 6 from rfl] at hx263_0)
                  replace hx263_0 := (HB.out.cell (World.block_lt_of_cell? w _ hx263_0)).trans hx263_0
                  replace p263 := eq_true p263
                  replace q263 := eq_true q263
                  have p264 : 0 ≤ (7 : Int) := (by omega)
                  have q264 : 7 < (l0.length : Int) := of_decide_eq_true (by first | (with_reducible assumption) | assumption)
                  obtain ⟨ad264, e264, hx264_0⟩ := Kd.at_int HR0.out 7 p264 q264
                  have hw264_0 := hx264_0
                  (try rw [show ((7 : Int)).toNat = 7 from rfl] at hw264_0)
                  (try rw [show 7 * 1 = 7 from rfl] at hw264_0)
                  (try simp only [Nat.reduceMul, Nat.reduceEqDiff, Go.Addr.add, ↓reduceIte] at hw264_0)
                  obtain rfl : ad251 = ad264 := (by injection e264)
                  (try simp only [show (7 : Int).toNat = 7 from rfl, Nat.reduceMul, Nat.reduceEqDiff, Go.Addr.add, ↓reduceIte] at hx264_0)
                  have qi264 : (7 < l0.length) = True := eq_true (by omega)
                  (try rw [show ((7 : Int)).toNat = 7 from rfl] at hx264_0)
                  replace hx264_0 := (HB.out.cell (World.block_lt_of_cell? w _ hx264_0)).trans hx264_0
                  replace p264 := eq_true p264
                  replace q264 := eq_true q264
                  have p265 : 0 ≤ (8 : Int) := (by omega)
                  have q265 : 8 < (l0.length : Int) := of_decide_eq_true (by first | (with_reducible assumption) | assumption)
                  obtain ⟨ad265, e265, hx265_0⟩ := Kd.at_int HR0.out 8 p265 q265
                  have hw265_0 := hx265_0
                  (try rw [show ((8 : Int)).toNat = 8 from rfl] at hw265_0)
                  (try rw [show 8 * 1 = 8 from rfl] at hw265_0)
                  (try simp only [Nat.reduceMul, Nat.reduceEqDiff, Go.Addr.add, ↓reduceIte] at hw265_0)
                  obtain rfl : ad251 = ad265 := (by injection e265)
                  (try simp only [show (8 : Int).toNat = 8 from rfl, Nat.reduceMul, Nat.reduceEqDiff, Go.Addr.add, ↓reduceIte] at hx265_0)
                  have qi265 : (8 < l0.length) = True := eq_true (by omega)
                  (try rw [show ((8 : Int)).toNat = 8 from rfl] at hx265_0)
                  replace hx265_0 := (HB.out.cell (World.block_lt_of_cell? w _ hx265_0)).trans hx265_0
                  replace p265 := eq_true p265
                  replace q265 := eq_true q265
                  have p266 : 0 ≤ (9 : Int) := (by omega)
                  have q266 : 9 < (l0.length : Int) := of_decide_eq_true (by first | (with_reducible assumption) | assumption)
                  obtain ⟨ad266, e266, hx266_0⟩ := Kd.at_int HR0.out 9 p266 q266
                  have hw266_0 := hx266_0
                  (try rw [show ((9 : Int)).toNat = 9 from rfl] at hw266_0)
                  (try rw [show 9 * 1 = 9 from rfl] at hw266_0)
                  (try simp only [Nat.reduceMul, Nat.reduceEqDiff, Go.Addr.add, ↓reduceIte] at hw266_0)
                  obtain rfl : ad251 = ad266 := (by injection e266)
                  (try simp only [show (9 : Int).toNat = 9 from rfl, Nat.reduceMul, Nat.reduceEqDiff, Go.Addr.add, ↓reduceIte] at hx266_0)
                  have qi266 : (9 < l0.length) = True := eq_true (by omega)
                  (try rw [show ((9 : Int)).toNat = 9 from rfl] at hx266_0)
                  replace hx266_0 := (HB.out.cell (World.block_lt_of_cell? w _ hx266_0)).trans hx266_0
                  replace p266 := eq_true p266
                  replace q266 := eq_true q266
                  have p267 : 0 ≤ (10 : Int) := (by omega)
                  have q267 : 10 < (l0.length : Int) := of_decide_eq_true (by first | (with_reducible assumption) | assumption)
                  obtain ⟨ad267, e267, hx267_0⟩ := Kd.at_int HR0.out 10 p267 q267
                  have hw267_0 := hx267_0
                  (try rw [show ((10 : Int)).toNat = 10 from rfl] at hw267_0)
                  (try rw [show 10 * 1 = 10 from rfl] at hw267_0)
                  (try simp only [Nat.reduceMul, Nat.reduceEqDiff, Go.Addr.add, ↓reduceIte] at hw267_0)
                  obtain rfl : ad251 = ad267 := (by injection e267)
                  (try simp only [show (10 : Int).toNat = 10 from rfl, Nat.reduceMul, Nat.reduceEqDiff, Go.Addr.add, ↓reduceIte] at hx267_0)
                  have qi267 : (10 < l0.length) = True := eq_true (by omega)
                  (try rw [show ((10 : Int)).toNat = 10 from rfl] at hx267_0)
                  replace hx267_0 := (HB.out.cell (World.block_lt_of_cell? w _ hx267_0)).trans hx267_0
                  replace p267 := eq_true p267
                  replace q267 := eq_true q267
                  refine start_ (n := 30) (S := fun w' => w'.cell? ⟨ad251.block, ad251.off + 6, none⟩ = some (.int .u8 (rd l0 6)) ∧ w'.cell? ⟨ad251.block, ad251.off + 7, none⟩ = some (.int .u8 (rd l0 7)) ∧ w'.cell? ⟨ad251.block, ad251.off + 8, none⟩ = some (.int .u8 (rd l0 8)) ∧ w'.cell? ⟨ad251.block, ad251.off + 9, none⟩ = some (.int .u8 (rd l0 9)) ∧ w'.cell? ⟨ad251.block, ad251.off + 10, none⟩ = some (.int .u8 (rd l0 10))) (ds := []) #[false, false, false, false, false, false, false, false, false, false, false, false, false, false, false, false, false, false, false, false, false, false, false, false, false, false, false, false, false, false] (by kernel_rfl) rfl rfl ⟨((HB.out.cell (World.block_lt_of_cell? w _ hw263_0)).trans hw263_0), ((HB.out.cell (World.block_lt_of_cell? w _ hw264_0)).trans hw264_0), ((HB.out.cell (World.block_lt_of_cell? w _ hw265_0)).trans hw265_0), ((HB.out.cell (World.block_lt_of_cell? w _ hw266_0)).trans hw266_0), ((HB.out.cell (World.block_lt_of_cell? w _ hw267_0)).trans hw267_0)⟩ (fun hHeld => ?_); refine with_tabW transport_read.tab6 transport_read.bits6 (fun HT_ HW_ => ?_)
                  generalize w46.drew = w47 at BK250 BK255 HB hx263_0 hx264_0 hx265_0 hx266_0 hx267_0 hHeld ⊢
                  refine pure_ (i := 0) (N := some 46) (v := ?_) (a' := ?_) #[T', F', F', F', F', F', F', F', F', F', F', F', F', F', F', F', F', F', F', F', F', F', F', F', F', F', F', F', F', F'] rfl rfl (any_of HT_.out (by kernel_rfl)) (fun _ _ _ h => h) (Or.inl ⟨by rfl, ?_⟩) ?_ ?_;rotate_left;(intro w';go_simp;with_reducible rfl);rotate_left;(simp only [Act.put, sA, sZ, sS, i64_w, i32_w];rfl)
                  refine pure_ (i := 1) (N := some 47) (v := ?_) (a' := ?_) #[T', T', F', F', F', F', F', F', F', F', F', F', F', F', F', F', F', F', F', F', F', F', F', F', F', F', F', F', F', F'] rfl rfl (any_of HT_.out (by kernel_rfl)) (fun _ _ _ h => h) (Or.inl ⟨by rfl, ?_⟩) ?_ ?_;rotate_left;(intro w';go_simp;with_reducible rfl);rotate_left;(simp only [Act.put, sA, sZ, sS, i64_w, i32_w];rfl)
                  refine pure_ (i := 5) (N := some 51) (v := ?_) (a' := ?_) #[T', T', F', F', F', T', F', F', F', F', F', F', F', F', F', F', F', F', F', F', F', F', F', F', F', F', F', F', F', F'] rfl rfl (any_of HT_.out (by kernel_rfl)) (fun _ _ _ h => h) (Or.inl ⟨by rfl, ?_⟩) ?_ ?_;rotate_left;(intro w';go_simp;with_reducible rfl);rotate_left;(simp only [Act.put, sA, sZ, sS, i64_w, i32_w];rfl)
                  refine pure_ (i := 6) (N := some 52) (v := ?_) (a' := ?_) #[T', T', F', F', F', T', T', F', F', F', F', F', F', F', F', F', F', F', F', F', F', F', F', F', F', F', F', F', F', F'] rfl rfl (any_of HT_.out (by kernel_rfl)) (fun _ _ _ h => h) (Or.inl ⟨by rfl, ?_⟩) ?_ ?_;rotate_left;(intro w';go_simp;with_reducible rfl);rotate_left;(simp only [Act.put, sA, sZ, sS, i64_w, i32_w];rfl)
                  refine pure_ (i := 11) (N := some 57) (v := ?_) (a' := ?_) #[T', T', F', F', F', T', T', F', F', F', F', T', F', F', F', F', F', F', F', F', F', F', F', F', F', F', F', F', F', F'] rfl rfl (any_of HT_.out (by kernel_rfl)) (fun _ _ _ h => h) (Or.inl ⟨by rfl, ?_⟩) ?_ ?_;rotate_left;(intro w';go_simp;with_reducible rfl);rotate_left;(simp only [Act.put, sA, sZ, sS, i64_w, i32_w];rfl)
                  refine pure_ (i := 12) (N := some 58) (v := ?_) (a' := ?_) #[T', T', F', F', F', T', T', F', F', F', F', T', T', F', F', F', F', F', F', F', F', F', F', F', F', F', F', F', F', F'] rfl rfl (any_of HT_.out (by kernel_rfl)) (fun _ _ _ h => h) (Or.inl ⟨by rfl, ?_⟩) ?_ ?_;rotate_left;(intro w';go_simp;with_reducible rfl);rotate_left;(simp only [Act.put, sA, sZ, sS, i64_w, i32_w];rfl)
                  refine pure_ (i := 17) (N := some 63) (v := ?_) (a' := ?_) #[T', T', F', F', F', T', T', F', F', F', F', T', T', F', F', F', F', T', F', F', F', F', F', F', F', F', F', F', F', F'] rfl rfl (any_of HT_.out (by kernel_rfl)) (fun _ _ _ h => h) (Or.inl ⟨by rfl, ?_⟩) ?_ ?_;rotate_left;(intro w';go_simp;with_reducible rfl);rotate_left;(simp only [Act.put, sA, sZ, sS, i64_w, i32_w];rfl)
                  refine pure_ (i := 18) (N := some 64) (v := ?_) (a' := ?_) #[T', T', F', F', F', T', T', F', F', F', F', T', T', F', F', F', F', T', T', F', F', F', F', F', F', F', F', F', F', F'] rfl rfl (any_of HT_.out (by kernel_rfl)) (fun _ _ _ h => h) (Or.inl ⟨by rfl, ?_⟩) ?_ ?_;rotate_left;(intro w';go_simp;with_reducible rfl);rotate_left;(simp only [Act.put, sA, sZ, sS, i64_w, i32_w];rfl)
                  refine pure_ (i := 23) (N := some 69) (v := ?_) (a' := ?_) #[T', T', F', F', F', T', T', F', F', F', F', T', T', F', F', F', F', T', T', F', F', F', F', T', F', F', F', F', F', F'] rfl rfl (any_of HT_.out (by kernel_rfl)) (fun _ _ _ h => h) (Or.inl ⟨by rfl, ?_⟩) ?_ ?_;rotate_left;(intro w';go_simp;with_reducible rfl);rotate_left;(simp only [Act.put, sA, sZ, sS, i64_w, i32_w];rfl)
                  refine pure_ (i := 24) (N := some 70) (v := ?_) (a' := ?_) #[T', T', F', F', F', T', T', F', F', F', F', T', T', F', F', F', F', T', T', F', F', F', F', T', T', F', F', F', F', F'] rfl rfl (any_of HT_.out (by kernel_rfl)) (fun _ _ _ h => h) (Or.inl ⟨by rfl, ?_⟩) ?_ ?_;rotate_left;(intro w';go_simp;with_reducible rfl);rotate_left;(simp only [Act.put, sA, sZ, sS, i64_w, i32_w];rfl)
                  refine take_ (i := 2) (N := some 48) (v := ?_) (a' := ?_) #[T', T', T', F', F', T', T', F', F', F', F', T', T', F', F', F', F', T', T', F', F', F', F', T', T', F', F', F', F', F'] rfl rfl (take_ofW HT_.out HW_.out (by kernel_rfl)) (fun _ _ _ h => h) (Or.inl ⟨by rfl, ?_⟩) hHeld ?_ ?_;rotate_left;(rintro w' ⟨s0, s1, s2, s3, s4⟩;go_simp;with_reducible rfl);rotate_left;(simp only [Act.put, sA, sZ, sS, i64_w, i32_w];rfl)
                  refine pure_ (i := 3) (N := some 49) (v := ?_) (a' := ?_) #[T', T', T', T', F', T', T', F', F', F', F', T', T', F', F', F', F', T', T', F', F', F', F', T', T', F', F', F', F', F'] rfl rfl (any_of HT_.out (by kernel_rfl)) (fun _ _ _ h => h) (Or.inl ⟨by rfl, ?_⟩) ?_ ?_;rotate_left;(intro w';go_simp;with_reducible rfl);rotate_left;(simp only [Act.put, sA, sZ, sS, i64_w, i32_w];rfl)
                  refine pure_ (i := 4) (N := some 50) (v := ?_) (a' := ?_) #[T', T', T', T', T', T', T', F', F', F', F', T', T', F', F', F', F', T', T', F', F', F', F', T', T', F', F', F', F', F'] rfl rfl (any_of HT_.out (by kernel_rfl)) (fun _ _ _ h => h) (Or.inl ⟨by rfl, ?_⟩) ?_ ?_;rotate_left;(intro w';go_simp;with_reducible rfl);rotate_left;(simp only [Act.put, sA, sZ, sS, i64_w, i32_w];rfl)
                  refine take_ (i := 7) (N := some 53) (v := ?_) (a' := ?_) #[T', T', T', T', T', T', T', T', F', F', F', T', T', F', F', F', F', T', T', F', F', F', F', T', T', F', F', F', F', F'] rfl rfl (take_ofW HT_.out HW_.out (by kernel_rfl)) (fun _ _ _ h => h) (Or.inl ⟨by rfl, ?_⟩) hHeld ?_ ?_;rotate_left;(rintro w' ⟨s0, s1, s2, s3, s4⟩;go_simp;with_reducible rfl);rotate_left;(simp only [Act.put, sA, sZ, sS, i64_w, i32_w];rfl)
                  refine pure_ (i := 8) (N := some 54) (v := ?_) (a' := ?_) #[T', T', T', T', T', T', T', T', T', F', F', T', T', F', F', F', F', T', T', F', F', F', F', T', T', F', F', F', F', F'] rfl rfl (any_of HT_.out (by kernel_rfl)) (fun _ _ _ h => h) (Or.inl ⟨by rfl, ?_⟩) ?_ ?_;rotate_left;(intro w';go_simp;with_reducible rfl);rotate_left;(simp only [Act.put, sA, sZ, sS, i64_w, i32_w];rfl)
                  refine pure_ (i := 9) (N := some 55) (v := ?_) (a' := ?_) #[T', T', T', T', T', T', T', T', T', T', F', T', T', F', F', F', F', T', T', F', F', F', F', T', T', F', F', F', F', F'] rfl rfl (any_of HT_.out (by kernel_rfl)) (fun _ _ _ h => h) (Or.inl ⟨by rfl, ?_⟩) ?_ ?_;rotate_left;(intro w';go_simp;with_reducible rfl);rotate_left;(simp only [Act.put, sA, sZ, sS, i64_w, i32_w];rfl)
                  refine pure_ (i := 10) (N := some 56) (v := ?_) (a' := ?_) #[T', T', T', T', T', T', T', T', T', T', T', T', T', F', F', F', F', T', T', F', F', F', F', T', T', F', F', F', F', F'] rfl rfl (any_of HT_.out (by kernel_rfl)) (fun _ _ _ h => h) (Or.inl ⟨by rfl, ?_⟩) ?_ ?_;rotate_left;(intro w';go_simp;with_reducible rfl);rotate_left;(simp only [Act.put, sA, sZ, sS, i64_w, i32_w];rfl)
                  refine take_ (i := 13) (N := some 59) (v := ?_) (a' := ?_) #[T', T', T', T', T', T', T', T', T', T', T', T', T', T', F', F', F', T', T', F', F', F', F', T', T', F', F', F', F', F'] rfl rfl (take_ofW HT_.out HW_.out (by kernel_rfl)) (fun _ _ _ h => h) (Or.inl ⟨by rfl, ?_⟩) hHeld ?_ ?_;rotate_left;(rintro w' ⟨s0, s1, s2, s3, s4⟩;go_simp;with_reducible rfl);rotate_left;(simp only [Act.put, sA, sZ, sS, i64_w, i32_w];rfl)
                  refine pure_ (i := 14) (N := some 60) (v := ?_) (a' := ?_) #[T', T', T', T', T', T', T', T', T', T', T', T', T', T', T', F', F', T', T', F', F', F', F', T', T', F', F', F', F', F'] rfl rfl (any_of HT_.out (by kernel_rfl)) (fun _ _ _ h => h) (Or.inl ⟨by rfl, ?_⟩) ?_ ?_;rotate_left;(intro w';go_simp;with_reducible rfl);rotate_left;(simp only [Act.put, sA, sZ, sS, i64_w, i32_w];rfl)
                  refine pure_ (i := 15) (N := some 61) (v := ?_) (a' := ?_) #[T', T', T', T', T', T', T', T', T', T', T', T', T', T', T', T', F', T', T', F', F', F', F', T', T', F', F', F', F', F'] rfl rfl (any_of HT_.out (by kernel_rfl)) (fun _ _ _ h => h) (Or.inl ⟨by rfl, ?_⟩) ?_ ?_;rotate_left;(intro w';go_simp;with_reducible rfl);rotate_left;(simp only [Act.put, sA, sZ, sS, i64_w, i32_w];rfl)
                  refine pure_ (i := 16) (N := some 62) (v := ?_) (a' := ?_) #[T', T', T', T', T', T', T', T', T', T', T', T', T', T', T', T', T', T', T', F', F', F', F', T', T', F', F', F', F', F'] rfl rfl (any_of HT_.out (by kernel_rfl)) (fun _ _ _ h => h) (Or.inl ⟨by rfl, ?_⟩) ?_ ?_;rotate_left;(intro w';go_simp;with_reducible rfl);rotate_left;(simp only [Act.put, sA, sZ, sS, i64_w, i32_w];rfl)
                  refine take_ (i := 19) (N := some 65) (v := ?_) (a' := ?_) #[T', T', T', T', T', T', T', T', T', T', T', T', T', T', T', T', T', T', T', T', F', F', F', T', T', F', F', F', F', F'] rfl rfl (take_ofW HT_.out HW_.out (by kernel_rfl)) (fun _ _ _ h => h) (Or.inl ⟨by rfl, ?_⟩) hHeld ?_ ?_;rotate_left;(rintro w' ⟨s0, s1, s2, s3, s4⟩;go_simp;with_reducible rfl);rotate_left;(simp only [Act.put, sA, sZ, sS, i64_w, i32_w];rfl)
                  refine pure_ (i := 20) (N := some 66) (v := ?_) (a' := ?_) #[T', T', T', T', T', T', T', T', T', T', T', T', T', T', T', T', T', T', T', T', T', F', F', T', T', F', F', F', F', F'] rfl rfl (any_of HT_.out (by kernel_rfl)) (fun _ _ _ h => h) (Or.inl ⟨by rfl, ?_⟩) ?_ ?_;rotate_left;(intro w';go_simp;with_reducible rfl);rotate_left;(simp only [Act.put, sA, sZ, sS, i64_w, i32_w];rfl)
                  refine pure_ (i := 21) (N := some 67) (v := ?_) (a' := ?_) #[T', T', T', T', T', T', T', T', T', T', T', T', T', T', T', T', T', T', T', T', T', T', F', T', T', F', F', F', F', F'] rfl rfl (any_of HT_.out (by kernel_rfl)) (fun _ _ _ h => h) (Or.inl ⟨by rfl, ?_⟩) ?_ ?_;rotate_left;(intro w';go_simp;with_reducible rfl);rotate_left;(simp only [Act.put, sA, sZ, sS, i64_w, i32_w];rfl)
                  refine pure_ (i := 22) (N := some 68) (v := ?_) (a' := ?_) #[T', T', T', T', T', T', T', T', T', T', T', T', T', T', T', T', T', T', T', T', T', T', T', T', T', F', F', F', F', F'] rfl rfl (any_of HT_.out (by kernel_rfl)) (fun _ _ _ h => h) (Or.inl ⟨by rfl, ?_⟩) ?_ ?_;rotate_left;(intro w';go_simp;with_reducible rfl);rotate_left;(simp only [Act.put, sA, sZ, sS, i64_w, i32_w];rfl)
                  refine take_ (i := 25) (N := some 71) (v := ?_) (a' := ?_) #[T', T', T', T', T', T', T', T', T', T', T', T', T', T', T', T', T', T', T', T', T', T', T', T', T', T', F', F', F', F'] rfl rfl (take_ofW HT_.out HW_.out (by kernel_rfl)) (fun _ _ _ h => h) (Or.inl ⟨by rfl, ?_⟩) hHeld ?_ ?_;rotate_left;(rintro w' ⟨s0, s1, s2, s3, s4⟩;go_simp;with_reducible rfl);rotate_left;(simp only [Act.put, sA, sZ, sS, i64_w, i32_w];rfl)
                  refine pure_ (i := 26) (N := some 72) (v := ?_) (a' := ?_) #[T', T', T', T', T', T', T', T', T', T', T', T', T', T', T', T', T', T', T', T', T', T', T', T', T', T', T', F', F', F'] rfl rfl (any_of HT_.out (by kernel_rfl)) (fun _ _ _ h => h) (Or.inl ⟨by rfl, ?_⟩) ?_ ?_;rotate_left;(intro w';go_simp;with_reducible rfl);rotate_left;(simp only [Act.put, sA, sZ, sS, i64_w, i32_w];rfl)
                  refine pure_ (i := 27) (N := some 73) (v := ?_) (a' := ?_) #[T', T', T', T', T', T', T', T', T', T', T', T', T', T', T', T', T', T', T', T', T', T', T', T', T', T', T', T', F', F'] rfl rfl (any_of HT_.out (by kernel_rfl)) (fun _ _ _ h => h) (Or.inl ⟨by rfl, ?_⟩) ?_ ?_;rotate_left;(intro w';go_simp;with_reducible rfl);rotate_left;(simp only [Act.put, sA, sZ, sS, i64_w, i32_w];rfl)
                  refine pure_ (i := 28) (N := some 74) (v := ?_) (a' := ?_) #[T', T', T', T', T', T', T', T', T', T', T', T', T', T', T', T', T', T', T', T', T', T', T', T', T', T', T', T', T', F'] rfl rfl (any_of HT_.out (by kernel_rfl)) (fun _ _ _ h => h) (Or.inl ⟨by rfl, ?_⟩) ?_ ?_;rotate_left;(intro w';go_simp;with_reducible rfl);rotate_left;(simp only [Act.put, sA, sZ, sS, i64_w, i32_w];rfl)
                  refine pure_ (i := 29) (N := some 6) (v := ?_) (a' := ?_) #[T', T', T', T', T', T', T', T', T', T', T', T', T', T', T', T', T', T', T', T', T', T', T', T', T', T', T', T', T', T'] rfl rfl (any_of HT_.out (by kernel_rfl)) (fun _ _ _ h => h) (Or.inl ⟨by rfl, ?_⟩) ?_ ?_;rotate_left;(intro w';go_simp;with_reducible rfl);rotate_left;(simp only [Act.put, sA, sZ, sS, i64_w, i32_w];rfl)
                  refine done_ (done_of HT_.out (by kernel_rfl)) ?_
                  try go_wp2
                  have n0_ := Aside0.mk (yD BK250.out)
                  have n1_ := Aside0.mk (yD BK255.out)
                  have n2_ := Aside0.mk (zD HB.out)
                  clear BK250
                  clear BK255
                  clear HB
                  have BK250 := n0_
                  have BK255 := n1_
                  have HB := n2_
                  clear n0_ n1_ n2_
                  have p268 : 0 ≤ (10 : Int) := (by omega)
                  have q268 : 10 < (l0.length : Int) := of_decide_eq_true (by first | (with_reducible assumption) | assumption)
                  obtain ⟨ad268, e268, hx268_0⟩ := Kd.at_int HR0.out 10 p268 q268
                  have hw268_0 := hx268_0
                  (try rw [show ((10 : Int)).toNat = 10 from rfl] at hw268_0)
                  (try rw [show 10 * 1 = 10 from rfl] at hw268_0)
                  (try simp only [Nat.reduceMul, Nat.reduceEqDiff, Go.Addr.add, ↓reduceIte] at hw268_0)
                  obtain rfl : ad251 = ad268 := (by injection e268)
                  (try simp only [show (10 : Int).toNat = 10 from rfl, Nat.reduceMul, Nat.reduceEqDiff, Go.Addr.add, ↓reduceIte] at hx268_0)
                  have qi268 : (10 < l0.length) = True := eq_true (by omega)
                  (try rw [show ((10 : Int)).toNat = 10 from rfl] at hx268_0)
                  replace hx268_0 := (HB.out.cell (World.block_lt_of_cell? w _ hx268_0)).trans hx268_0
                  replace p268 := eq_true p268
                  replace q268 := eq_true q268
                  have p269 : 0 ≤ (11 : Int) := (by omega)
                  have q269 : 11 < (l0.length : Int) := of_decide_eq_true (by first | (with_reducible assumption) | assumption)
                  obtain ⟨ad269, e269, hx269_0⟩ := Kd.at_int HR0.out 11 p269 q269
                  have hw269_0 := hx269_0
                  (try rw [show ((11 : Int)).toNat = 11 from rfl] at hw269_0)
                  (try rw [show 11 * 1 = 11 from rfl] at hw269_0)
                  (try simp only [Nat.reduceMul, Nat.reduceEqDiff, Go.Addr.add, ↓reduceIte] at hw269_0)
                  obtain rfl : ad251 = ad269 := (by injection e269)
                  (try simp only [show (11 : Int).toNat = 11 from rfl, Nat.reduceMul, Nat.reduceEqDiff, Go.Addr.add, ↓reduceIte] at hx269_0)
                  have qi269 : (11 < l0.length) = True := eq_true (by omega)
                  (try rw [show ((11 : Int)).toNat = 11 from rfl] at hx269_0)
                  replace hx269_0 := (HB.out.cell (World.block_lt_of_cell? w _ hx269_0)).trans hx269_0
                  replace p269 := eq_true p269
                  replace q269 := eq_true q269
                  refine start_ (n := 16) (S := fun w' => w'.cell? ⟨ad251.block, ad251.off + 10, none⟩ = some (.int .u8 (rd l0 10)) ∧ w'.cell? ⟨ad251.block, ad251.off + 11, none⟩ = some (.int .u8 (rd l0 11))) (ds := []) #[false, false, false, false, false, false, false, false, false, false, false, false, false, false, false, false] (by kernel_rfl) rfl rfl ⟨((HB.out.cell (World.block_lt_of_cell? w _ hw268_0)).trans hw268_0), ((HB.out.cell (World.block_lt_of_cell? w _ hw269_0)).trans hw269_0)⟩ (fun hHeld => ?_); refine with_tabW transport_read.tab7 transport_read.bits7 (fun HT_ HW_ => ?_)
                  generalize w47.drew = w48 at BK250 BK255 HB hx268_0 hx269_0 hHeld ⊢
                  refine pure_ (i := 0) (N := some 75) (v := ?_) (a' := ?_) #[T', F', F', F', F', F', F', F', F', F', F', F', F', F', F', F'] rfl rfl (any_of HT_.out (by kernel_rfl)) (fun _ _ _ h => h) (Or.inl ⟨by rfl, ?_⟩) ?_ ?_;rotate_left;(intro w';go_simp;with_reducible rfl);rotate_left;(simp only [Act.put, sA, sZ, sS, i64_w, i32_w];rfl)
                  refine pure_ (i := 1) (N := some 76) (v := ?_) (a' := ?_) #[T', T', F', F', F', F', F', F', F', F', F', F', F', F', F', F'] rfl rfl (any_of HT_.out (by kernel_rfl)) (fun _ _ _ h => h) (Or.inl ⟨by rfl, ?_⟩) ?_ ?_;rotate_left;(intro w';go_simp;with_reducible rfl);rotate_left;(simp only [Act.put, sA, sZ, sS, i64_w, i32_w];rfl)
                  refine pure_ (i := 2) (N := some 77) (v := ?_) (a' := ?_) #[T', T', T', F', F', F', F', F', F', F', F', F', F', F', F', F'] rfl rfl (any_of HT_.out (by kernel_rfl)) (fun _ _ _ h => h) (Or.inl ⟨by rfl, ?_⟩) ?_ ?_;rotate_left;(intro w';go_simp;with_reducible rfl);rotate_left;(simp only [Act.put, sA, sZ, sS, i64_w, i32_w];rfl)
                  refine pure_ (i := 3) (N := some 78) (v := ?_) (a' := ?_) #[T', T', T', T', F', F', F', F', F', F', F', F', F', F', F', F'] rfl rfl (any_of HT_.out (by kernel_rfl)) (fun _ _ _ h => h) (Or.inl ⟨by rfl, ?_⟩) ?_ ?_;rotate_left;(intro w';go_simp;with_reducible rfl);rotate_left;(simp only [Act.put, sA, sZ, sS, i64_w, i32_w];rfl)
                  refine pure_ (i := 9) (N := some 84) (v := ?_) (a' := ?_) #[T', T', T', T', F', F', F', F', F', T', F', F', F', F', F', F'] rfl rfl (any_of HT_.out (by kernel_rfl)) (fun _ _ _ h => h) (Or.inl ⟨by rfl, ?_⟩) ?_ ?_;rotate_left;(intro w';go_simp;with_reducible rfl);rotate_left;(simp only [Act.put, sA, sZ, sS, i64_w, i32_w];rfl)
                  refine pure_ (i := 10) (N := some 85) (v := ?_) (a' := ?_) #[T', T', T', T', F', F', F', F', F', T', T', F', F', F', F', F'] rfl rfl (any_of HT_.out (by kernel_rfl)) (fun _ _ _ h => h) (Or.inl ⟨by rfl, ?_⟩) ?_ ?_;rotate_left;(intro w';go_simp;with_reducible rfl);rotate_left;(simp only [Act.put, sA, sZ, sS, i64_w, i32_w];rfl)
                  refine take_ (i := 4) (N := some 79) (v := ?_) (a' := ?_) #[T', T', T', T', T', F', F', F', F', T', T', F', F', F', F', F'] rfl rfl (take_ofW HT_.out HW_.out (by kernel_rfl)) (fun _ _ _ h => h) (Or.inl ⟨by rfl, ?_⟩) hHeld ?_ ?_;rotate_left;(rintro w' ⟨s0, s1⟩;go_simp;with_reducible rfl);rotate_left;(simp only [Act.put, sA, sZ, sS, i64_w, i32_w];rfl)
                  refine pure_ (i := 5) (N := some 80) (v := ?_) (a' := ?_) #[T', T', T', T', T', T', F', F', F', T', T', F', F', F', F', F'] rfl rfl (any_of HT_.out (by kernel_rfl)) (fun _ _ _ h => h) (Or.inl ⟨by rfl, ?_⟩) ?_ ?_;rotate_left;(intro w';go_simp;with_reducible rfl);rotate_left;(simp only [Act.put, sA, sZ, sS, i64_w, i32_w];rfl)
                  refine pure_ (i := 6) (N := some 81) (v := ?_) (a' := ?_) #[T', T', T', T', T', T', T', F', F', T', T', F', F', F', F', F'] rfl rfl (any_of HT_.out (by kernel_rfl)) (fun _ _ _ h => h) (Or.inl ⟨by rfl, ?_⟩) ?_ ?_;rotate_left;(intro w';go_simp;with_reducible rfl);rotate_left;(simp only [Act.put, sA, sZ, sS, i64_w, i32_w];rfl)
                  refine pure_ (i := 7) (N := some 82) (v := ?_) (a' := ?_) #[T', T', T', T', T', T', T', T', F', T', T', F', F', F', F', F'] rfl rfl (any_of HT_.out (by kernel_rfl)) (fun _ _ _ h => h) (Or.inl ⟨by rfl, ?_⟩) ?_ ?_;rotate_left;(intro w';go_simp;with_reducible rfl);rotate_left;(simp only [Act.put, sA, sZ, sS, i64_w, i32_w];rfl)
                  refine pure_ (i := 8) (N := some 83) (v := ?_) (a' := ?_) #[T', T', T', T', T', T', T', T', T', T', T', F', F', F', F', F'] rfl rfl (any_of HT_.out (by kernel_rfl)) (fun _ _ _ h => h) (Or.inl ⟨by rfl, ?_⟩) ?_ ?_;rotate_left;(intro w';go_simp;with_reducible rfl);rotate_left;(simp only [Act.put, sA, sZ, sS, i64_w, i32_w];rfl)
                  refine take_ (i := 11) (N := some 86) (v := ?_) (a' := ?_) #[T', T', T', T', T', T', T', T', T', T', T', T', F', F', F', F'] rfl rfl (take_ofW HT_.out HW_.out (by kernel_rfl)) (fun _ _ _ h => h) (Or.inl ⟨by rfl, ?_⟩) hHeld ?_ ?_;rotate_left;(rintro w' ⟨s0, s1⟩;go_simp;with_reducible rfl);rotate_left;(simp only [Act.put, sA, sZ, sS, i64_w, i32_w];rfl)
                  refine pure_ (i := 12) (N := some 87) (v := ?_) (a' := ?_) #[T', T', T', T', T', T', T', T', T', T', T', T', T', F', F', F'] rfl rfl (any_of HT_.out (by kernel_rfl)) (fun _ _ _ h => h) (Or.inl ⟨by rfl, ?_⟩) ?_ ?_;rotate_left;(intro w';go_simp;with_reducible rfl);rotate_left;(simp only [Act.put, sA, sZ, sS, i64_w, i32_w];rfl)
                  refine pure_ (i := 13) (N := some 88) (v := ?_) (a' := ?_) #[T', T', T', T', T', T', T', T', T', T', T', T', T', T', F', F'] rfl rfl (any_of HT_.out (by kernel_rfl)) (fun _ _ _ h => h) (Or.inl ⟨by rfl, ?_⟩) ?_ ?_;rotate_left;(intro w';go_simp;with_reducible rfl);rotate_left;(simp only [Act.put, sA, sZ, sS, i64_w, i32_w];rfl)
                  refine pure_ (i := 14) (N := some 89) (v := ?_) (a' := ?_) #[T', T', T', T', T', T', T', T', T', T', T', T', T', T', T', F'] rfl rfl (any_of HT_.out (by kernel_rfl)) (fun _ _ _ h => h) (Or.inl ⟨by rfl, ?_⟩) ?_ ?_;rotate_left;(intro w';go_simp;with_reducible rfl);rotate_left;(simp only [Act.put, sA, sZ, sS, i64_w, i32_w];rfl)
                  refine one_ (i := 15) (N := none) #[T', T', T', T', T', T', T', T', T', T', T', T', T', T', T', T'] rfl rfl (one_of HT_.out (by kernel_rfl)) (by decide) (fun K hK => ?_)
                  have hs49 : w48.cell? ⟨gb255, 3, none⟩ = some (.int .i64 (-1)) := (blk_cell BK255.out 3).trans rfl
                  have hfs49 := blk_frozen BK255.out 3
                  have hns49_0 := NB250_255.out
                  have hms49_0 := NB255_250.out
                  refine skip_ (w1 := ?_) (by rfl) rfl ?_ ?_
                  rotate_left
                  ·go_simp
                   rfl
                  refine hK.out _ _ ⟨((xF (p := ⟨gb255, _, none⟩) (by first | exact nE38 hw268_0 GW255.out | exact nF38 hw268_0 GW255.out | (rw [xB]; exact nE38 hw268_0 GW255.out) | (rw [xB]; exact nF38 hw268_0 GW255.out)) _).trans (hHeld.1)), ((xF (p := ⟨gb255, _, none⟩) (by first | exact nE38 hw269_0 GW255.out | exact nF38 hw269_0 GW255.out | (rw [xB]; exact nE38 hw269_0 GW255.out) | (rw [xB]; exact nF38 hw269_0 GW255.out)) _).trans (hHeld.2))⟩ (fun hHeld => ?_)
                  clear hK K
                  refine done_ (done_of HT_.out (by kernel_rfl)) ?_
                  obtain ⟨i050, hi050, _, hsz50, _⟩ := info_parts info5
                  obtain ⟨A50, hcut50, hA50, hC50⟩ := print_mid_of (P := Try.prog) (Value.int .u8) 0 22 5 .i64 .i64 Try.underlying22 hi050 hsz50 (some ad251) c0 l0 (ji33) 188 (of_decide_eq_true (by first | (with_reducible assumption) | assumption)) (by first | omega | exact of_decide_eq_true (by first | (with_reducible assumption) | assumption)) (of_decide_eq_true (by first | (with_reducible assumption) | assumption)) HC0.out
                  have HR270 := Aside0.mk (Kd.C_of_reads (h1 := fun _ => rfl) (hA50 _ (Kd.reads_of_C HR0.out)))
                  have HC270 := Aside0.mk hC50
                  clear hA50 hC50 hi050 hsz50
                  try go_wp2_with (first | ((with_reducible refine xC (f := 42) rfl ?_); refine goesL_ (some 96) rfl rfl Try.func42 (by kernel_rfl) rfl #[.slice A50 ((l0.take 188).drop ((ji33) : Int).toNat).length (c0 - (ji33).toNat)] rfl (by (try simp only [List.map_toArray, List.map_cons, List.map_nil]); first | done | (rw [show ((l0.take 188).drop ((ji33) : Int).toNat).length = (188 - (ji33).toNat) from (by rw [List.length_drop, List.length_take]; have h_ : (188 : Int) ≤ (l0.length : Int) := of_decide_eq_true (by first | (with_reducible assumption) | assumption); omega)] <;> rfl) | (simp only [hji33]; rfl) | rfl | (simp only [List.length_drop, List.length_take]; rfl)) ?_; (with_reducible refine (slices_Clone_byte_byte.calls _ _ ((l0.take 188).drop ((ji33) : Int).toNat) t271 _ ?side1 ?side2 A37.out).mono ?_); (case side1 => exact Kd.C_below HR270.out (by repeat (first | (with_reducible first | exact HB.out | apply zA | apply zN | apply zD | refine zP ?_ GE250.out | refine zP ?_ GE255.out) | exact HB.out))); (case side2 => exact HC270.out); rintro e w51 ⟨v272, rfl, ho0, hb⟩; refine ⟨_, rfl, ?_⟩; have n0_ := Aside0.mk (Kd.R_lower ho0 (zS (by repeat (first | (with_reducible first | exact HB.out | apply zA | apply zN | apply zD | refine zP ?_ GE250.out | refine zP ?_ GE255.out) | exact HB.out)))); have n1_ := Aside0.mk (yB (g := gb250) (o := .cells #[.int .i64 0, .int .i64 0, .bool false, .int .i64 0, .slice none 0 0] 28 (0, 0)) (by (with_reducible repeat (first | refine yN ?_ _ | refine yD ?_ | refine yA ?_ _)); refine blk_far ?_ NB250_255.out _; (with_reducible repeat (first | refine yN ?_ _ | refine yD ?_ | refine yA ?_ _)); exact BK250.out) hb); have n2_ := Aside0.mk (yB (g := gb255) (o := .cells #[.int .i64 (Go.bits .or .i64 (wrap64 ((wrap64 (Go.bits .and .u8 (rd l0 1) 31)) * 256)) (wrap64 (rd l0 2))), .int .i64 (wrap64 (Go.bits .and .u8 (rd l0 3) 15)), .bool ((Go.bits .and .u8 (rd l0 1) 64) != 0), .int .i64 (wrap64 ((wrap64 ((wrap64 ((Go.bits .or .i64 (Go.bits .or .i64 (Go.bits .or .i64 (Go.bits .or .i64 (wrap64 ((wrap64 (rd l0 6)) * 33554432)) (wrap64 ((wrap64 (rd l0 7)) * 131072))) (wrap64 ((wrap64 (rd l0 8)) * 512))) (wrap64 ((wrap64 (rd l0 9)) * 2))) (wrap64 ((rd l0 10) / 128))) * 300)) + (wrap64 ((wrap64 (Go.bits .and .u8 (rd l0 10) 1)) * 256)))) + (wrap64 (rd l0 11)))), .slice none 0 0] 28 (0, 0)) (by (with_reducible repeat (first | refine yN ?_ _ | refine yD ?_ | refine yA ?_ _)); refine blk_put (cs := #[.int .i64 (Go.bits .or .i64 (wrap64 ((wrap64 (Go.bits .and .u8 (rd l0 1) 31)) * 256)) (wrap64 (rd l0 2))), .int .i64 (wrap64 (Go.bits .and .u8 (rd l0 3) 15)), .bool ((Go.bits .and .u8 (rd l0 1) 64) != 0), .int .i64 (-1), .slice none 0 0]) ?_ 3 _ rfl; (with_reducible repeat (first | refine yN ?_ _ | refine yD ?_ | refine yA ?_ _)); exact BK255.out) hb); have n3_ := Aside0.mk (zT (by repeat (first | (with_reducible first | exact HB.out | apply zA | apply zN | apply zD | refine zP ?_ GE250.out | refine zP ?_ GE255.out) | exact HB.out)) hb); clear BK250; clear BK255; clear HB; have HO273 := n0_; have BK250 := n1_; have BK255 := n2_; have HB := n3_; clear n0_ n1_ n2_ n3_; (try clear hb); (try clear hb2); (try clear hk); (try clear hi); (try clear ho0); obtain ⟨Ao52, co52, eo52⟩ := Kd.R_slice HO273.out; subst eo52; have hnb53 := NB255_250.out; have hnc53 := NB250_255.out; have hcz54_0 : w51.cell? ⟨gb255, 0, none⟩ = some (.int .i64 (Go.bits .or .i64 (wrap64 ((wrap64 (Go.bits .and .u8 (rd l0 1) 31)) * 256)) (wrap64 (rd l0 2)))) := (blk_cell BK255.out 0).trans rfl; have hcz54_1 : w51.cell? ⟨gb255, 1, none⟩ = some (.int .i64 (wrap64 (Go.bits .and .u8 (rd l0 3) 15))) := (blk_cell BK255.out 1).trans rfl; have hcz54_2 : w51.cell? ⟨gb255, 2, none⟩ = some (.bool ((Go.bits .and .u8 (rd l0 1) 64) != 0)) := (blk_cell BK255.out 2).trans rfl; have hcz54_3 : w51.cell? ⟨gb255, 3, none⟩ = some (.int .i64 (wrap64 ((wrap64 ((wrap64 ((Go.bits .or .i64 (Go.bits .or .i64 (Go.bits .or .i64 (Go.bits .or .i64 (wrap64 ((wrap64 (rd l0 6)) * 33554432)) (wrap64 ((wrap64 (rd l0 7)) * 131072))) (wrap64 ((wrap64 (rd l0 8)) * 512))) (wrap64 ((wrap64 (rd l0 9)) * 2))) (wrap64 ((rd l0 10) / 128))) * 300)) + (wrap64 ((wrap64 (Go.bits .and .u8 (rd l0 10) 1)) * 256)))) + (wrap64 (rd l0 11))))) := (blk_cell BK255.out 3).trans rfl; have hcz54_4 : w51.cell? ⟨gb255, 4, none⟩ = some (.slice none 0 0) := (blk_cell BK255.out 4).trans rfl; have hfz54_0 := blk_frozen BK255.out 0; have hfz54_1 := blk_frozen BK255.out 1; have hfz54_2 := blk_frozen BK255.out 2; have hfz54_3 := blk_frozen BK255.out 3; have hfz54_4 := blk_frozen BK255.out 4; have hcz55_0 : w51.cell? ⟨gb250, 0, none⟩ = some (.int .i64 0) := (blk_cell BK250.out 0).trans rfl; have hcz55_1 : w51.cell? ⟨gb250, 1, none⟩ = some (.int .i64 0) := (blk_cell BK250.out 1).trans rfl; have hcz55_2 : w51.cell? ⟨gb250, 2, none⟩ = some (.bool false) := (blk_cell BK250.out 2).trans rfl; have hcz55_3 : w51.cell? ⟨gb250, 3, none⟩ = some (.int .i64 0) := (blk_cell BK250.out 3).trans rfl; have hcz55_4 : w51.cell? ⟨gb250, 4, none⟩ = some (.slice none 0 0) := (blk_cell BK250.out 4).trans rfl; have hfz55_0 := blk_frozen BK250.out 0; have hfz55_1 := blk_frozen BK250.out 1; have hfz55_2 := blk_frozen BK250.out 2; have hfz55_3 := blk_frozen BK250.out 3; have hfz55_4 := blk_frozen BK250.out 4))
                  refine bodyPost_ret (results_cell_row rfl _ _ gb250 28 #[.int .i64 (Go.bits .or .i64 (wrap64 ((wrap64 (Go.bits .and .u8 (rd l0 1) 31)) * 256)) (wrap64 (rd l0 2))), .int .i64 (wrap64 (Go.bits .and .u8 (rd l0 3) 15)), .bool ((Go.bits .and .u8 (rd l0 1) 64) != 0), .int .i64 (wrap64 ((wrap64 ((wrap64 ((Go.bits .or .i64 (Go.bits .or .i64 (Go.bits .or .i64 (Go.bits .or .i64 (wrap64 ((wrap64 (rd l0 6)) * 33554432)) (wrap64 ((wrap64 (rd l0 7)) * 131072))) (wrap64 ((wrap64 (rd l0 8)) * 512))) (wrap64 ((wrap64 (rd l0 9)) * 2))) (wrap64 ((rd l0 10) / 128))) * 300)) + (wrap64 ((wrap64 (Go.bits .and .u8 (rd l0 10) 1)) * 256)))) + (wrap64 (rd l0 11)))), .slice Ao52 t271.length co52] (0, 0) _ rfl (by (with_reducible repeat (first | refine yN ?_ _ | refine yD ?_ | refine yA ?_ _)); refine blk_put (cs := #[.int .i64 (Go.bits .or .i64 (wrap64 ((wrap64 (Go.bits .and .u8 (rd l0 1) 31)) * 256)) (wrap64 (rd l0 2))), .int .i64 (wrap64 (Go.bits .and .u8 (rd l0 3) 15)), .bool ((Go.bits .and .u8 (rd l0 1) 64) != 0), .int .i64 (wrap64 ((wrap64 ((wrap64 ((Go.bits .or .i64 (Go.bits .or .i64 (Go.bits .or .i64 (Go.bits .or .i64 (wrap64 ((wrap64 (rd l0 6)) * 33554432)) (wrap64 ((wrap64 (rd l0 7)) * 131072))) (wrap64 ((wrap64 (rd l0 8)) * 512))) (wrap64 ((wrap64 (rd l0 9)) * 2))) (wrap64 ((rd l0 10) / 128))) * 300)) + (wrap64 ((wrap64 (Go.bits .and .u8 (rd l0 10) 1)) * 256)))) + (wrap64 (rd l0 11)))), .slice none 0 0]) ?_ 4 _ rfl; (with_reducible repeat (first | refine yN ?_ _ | refine yD ?_ | refine yA ?_ _)); refine blk_put (cs := #[.int .i64 (Go.bits .or .i64 (wrap64 ((wrap64 (Go.bits .and .u8 (rd l0 1) 31)) * 256)) (wrap64 (rd l0 2))), .int .i64 (wrap64 (Go.bits .and .u8 (rd l0 3) 15)), .bool ((Go.bits .and .u8 (rd l0 1) 64) != 0), .int .i64 0, .slice none 0 0]) ?_ 3 _ rfl; (with_reducible repeat (first | refine yN ?_ _ | refine yD ?_ | refine yA ?_ _)); refine blk_put (cs := #[.int .i64 (Go.bits .or .i64 (wrap64 ((wrap64 (Go.bits .and .u8 (rd l0 1) 31)) * 256)) (wrap64 (rd l0 2))), .int .i64 (wrap64 (Go.bits .and .u8 (rd l0 3) 15)), .bool false, .int .i64 0, .slice none 0 0]) ?_ 2 _ rfl; (with_reducible repeat (first | refine yN ?_ _ | refine yD ?_ | refine yA ?_ _)); refine blk_put (cs := #[.int .i64 (Go.bits .or .i64 (wrap64 ((wrap64 (Go.bits .and .u8 (rd l0 1) 31)) * 256)) (wrap64 (rd l0 2))), .int .i64 0, .bool false, .int .i64 0, .slice none 0 0]) ?_ 1 _ rfl; (with_reducible repeat (first | refine yN ?_ _ | refine yD ?_ | refine yA ?_ _)); refine blk_put (cs := #[.int .i64 0, .int .i64 0, .bool false, .int .i64 0, .slice none 0 0]) ?_ 0 _ rfl; (with_reducible repeat (first | refine yN ?_ _ | refine yD ?_ | refine yA ?_ _)); refine blk_far ?_ NB250_255.out _; (with_reducible repeat (first | refine yN ?_ _ | refine yD ?_ | refine yA ?_ _)); exact BK250.out) Try.underlying28 rfl (by kernel_rfl)) rfl ?_
                  exact ⟨_, by first | rfl | (simp [errW_none, errW_some] <;> rfl) | (simp only [← hji33]; first | rfl | (simp [errW_none, errW_some] <;> rfl)) | (simp [*, errW_none, errW_some] <;> rfl), by (with_reducible repeat (first | apply Kd.R_alloc | apply Kd.R_drewN | apply Kd.R_drew)); exact Kd.R_mono (Kd.R_far (p := ⟨gb250, 4, none⟩) (Kd.R_far (p := ⟨gb250, 3, none⟩) (Kd.R_far (p := ⟨gb250, 2, none⟩) (Kd.R_far (p := ⟨gb250, 1, none⟩) (Kd.R_far (p := ⟨gb250, 0, none⟩) (Kd.R_far (p := ⟨gb255, 4, none⟩) (Kd.R_types (Kd.R_types HO273.out BK255.out (by decide)) BK250.out (by decide)) (fun _ hk => hk.1.2) (.slice Ao52 t271.length co52)) (fun _ hk => hk.2) (.int .i64 (Go.bits .or .i64 (wrap64 ((wrap64 (Go.bits .and .u8 (rd l0 1) 31)) * 256)) (wrap64 (rd l0 2))))) (fun _ hk => hk.2) (.int .i64 (wrap64 (Go.bits .and .u8 (rd l0 3) 15)))) (fun _ hk => hk.2) (.bool ((Go.bits .and .u8 (rd l0 1) 64) != 0))) (fun _ hk => hk.2) (.int .i64 (wrap64 ((wrap64 ((wrap64 ((Go.bits .or .i64 (Go.bits .or .i64 (Go.bits .or .i64 (Go.bits .or .i64 (wrap64 ((wrap64 (rd l0 6)) * 33554432)) (wrap64 ((wrap64 (rd l0 7)) * 131072))) (wrap64 ((wrap64 (rd l0 8)) * 512))) (wrap64 ((wrap64 (rd l0 9)) * 2))) (wrap64 ((rd l0 10) / 128))) * 300)) + (wrap64 ((wrap64 (Go.bits .and .u8 (rd l0 10) 1)) * 256)))) + (wrap64 (rd l0 11)))))) (fun _ hk => hk.2) (.slice Ao52 t271.length co52)) (fun _ hk => trivial), by repeat (first | (with_reducible first | exact HB.out | apply zA | apply zN | apply zD | refine zP ?_ GE250.out | refine zP ?_ GE255.out) | exact HB.out)⟩
                 ·rw [if_neg c36] at H
                  exact absurd H (by simp)
                ·rw [if_neg c35] at H
                 exact absurd H (by simp)
               ·rw [if_neg c34] at H
                exact absurd H (by simp)
              ·rw [if_neg c32] at H
               exact absurd H (by simp)
             ·rw [if_neg c31] at H
              exact absurd H (by simp)
            ·rw [if_neg c30] at H
             exact absurd H (by simp)
           ·rw [if_neg c29] at H
            exact absurd H (by simp)
          ·rw [if_neg c28] at H
           exact absurd H (by simp)
         ·rw [if_neg c27] at H
          exact absurd H (by simp)
        ·rw [if_neg c26] at H
         have c26b0 : ((rd l0 5) == 16) = false := beq_eq_false_iff_ne.mpr c26
         have c26b1 : ((rd l0 5) != 16) = true := bne_iff_ne.mpr c26
         obtain ⟨ji56, hji56⟩ : ∃ j_ : Int, (mn (wrap64 (5 + (wrap64 (rd l0 4)))) 188) = j_ := ⟨_, rfl⟩
         replace H : (if 0 ≤ (ji56) then (if (ji56) ≤ 188 then (if 188 ≤ (l0.length : Int) then ((slices_Clone_byte_byte.f ((l0.take 188).drop ((ji56) : Int).toNat)).bind fun t275 => (some (Go.bits .or .i64 (wrap64 ((wrap64 (Go.bits .and .u8 (rd l0 1) 31)) * 256)) (wrap64 (rd l0 2)), wrap64 (Go.bits .and .u8 (rd l0 3) 15), ((Go.bits .and .u8 (rd l0 1) 64) != 0), (-1), t275))) else (none)) else (none)) else (none)) = some (r1, r2, r3, r4, r5) := by first | (rw [hji56] at H; exact H) | (simp only [hji56] at H ⊢; exact H)
         (try (have hji56h : ji56 ≤ 188 := by (rw [← hji56]; unfold mn; (repeat' split) <;> omega)))
         (try (have hji56g : ji56 ≤ 64 := by omega))
         have hji56_ : (if 188 < (wrap64 (5 + (wrap64 (rd l0 4)))) then 188 else (wrap64 (5 + (wrap64 (rd l0 4))))) = ji56 := hji56
         by_cases c57 : 0 ≤ (ji56)
         ·rw [if_pos c57] at H
          have c57b0 := eq_true c57
          have c57b1 : decide (0 ≤ (ji56)) = true := decide_eq_true c57
          clear c57
          by_cases c58 : (ji56) ≤ 188
          ·rw [if_pos c58] at H
           have c58b0 := eq_true c58
           have c58b1 : decide ((ji56) ≤ 188) = true := decide_eq_true c58
           clear c58
           by_cases c59 : 188 ≤ (l0.length : Int)
           ·rw [if_pos c59] at H
            have c59b0 := eq_true c59
            have c59b1 : decide (188 ≤ (l0.length : Int)) = true := decide_eq_true c59
            clear c59
            replace H := Option.bind_eq_some_iff.mp H
            obtain ⟨t275, A600, H⟩ := H
            replace H : (some (Go.bits .or .i64 (wrap64 ((wrap64 (Go.bits .and .u8 (rd l0 1) 31)) * 256)) (wrap64 (rd l0 2)), wrap64 (Go.bits .and .u8 (rd l0 3) 15), ((Go.bits .and .u8 (rd l0 1) 64) != 0), (-1), t275)) = some (r1, r2, r3, r4, r5) := H
            have A60 := Aside0.mk A600
            clear A600
            simp only [Option.some.injEq, Prod.mk.injEq] at H
            obtain ⟨rfl, rfl, rfl, rfl, rfl⟩ := H
            go_enter Try.func37, Try.ntmps37
            try go_wp2_with (first | ((with_reducible refine xD (N := 2) rfl ?_); refine box_event ?hg (N := 2) ?hd (cs := #[.int .i64 0, .int .i64 0, .bool false, .int .i64 0, .slice none 0 0]) (t := 28) ?hr ?_; (case hd => rfl); (case hg => rfl); (case hr => first | (go_simp; done) | (go_simp; rfl)); intro gb250 hg w61 hbox hb; have n0_ := Aside0.mk (zT (by repeat (first | (with_reducible first | exact HB.out | apply zA | apply zN | apply zD) | exact HB.out)) hb); have n1_ := Aside0.mk (hbox); have n2_ := Aside0.mk ((by rw [hg]; exact (zS (by repeat (first | (with_reducible first | exact HB.out | apply zA | apply zN | apply zD) | exact HB.out))) : w.heap.size ≤ gb250)); have n3_ := n2_; clear HB; have HB := n0_; have BK250 := n1_; have GW250 := n2_; have GE250 := n3_; clear n0_ n1_ n2_ n3_; clear hb hbox hg))
            have n0_ := Aside0.mk (yD BK250.out)
            have n1_ := Aside0.mk (zD HB.out)
            clear BK250
            clear HB
            have BK250 := n0_
            have HB := n1_
            clear n0_ n1_
            have p251 : 0 ≤ (1 : Int) := (by omega)
            have q251 : 1 < (l0.length : Int) := of_decide_eq_true (by first | (with_reducible assumption) | assumption)
            obtain ⟨ad251, e251, hx251_0⟩ := Kd.at_int HR0.out 1 p251 q251
            have hw251_0 := hx251_0
            (try rw [show ((1 : Int)).toNat = 1 from rfl] at hw251_0)
            (try rw [show 1 * 1 = 1 from rfl] at hw251_0)
            (try simp only [Nat.reduceMul, Nat.reduceEqDiff, Go.Addr.add, ↓reduceIte] at hw251_0)
            cases e251
            (try simp only [show (1 : Int).toNat = 1 from rfl, Nat.reduceMul, Nat.reduceEqDiff, Go.Addr.add, ↓reduceIte] at hx251_0)
            have qi251 : (1 < l0.length) = True := eq_true (by omega)
            (try rw [show ((1 : Int)).toNat = 1 from rfl] at hx251_0)
            replace hx251_0 := (HB.out.cell (World.block_lt_of_cell? w _ hx251_0)).trans hx251_0
            replace p251 := eq_true p251
            replace q251 := eq_true q251
            have p252 : 0 ≤ (2 : Int) := (by omega)
            have q252 : 2 < (l0.length : Int) := of_decide_eq_true (by first | (with_reducible assumption) | assumption)
            obtain ⟨ad252, e252, hx252_0⟩ := Kd.at_int HR0.out 2 p252 q252
            have hw252_0 := hx252_0
            (try rw [show ((2 : Int)).toNat = 2 from rfl] at hw252_0)
            (try rw [show 2 * 1 = 2 from rfl] at hw252_0)
            (try simp only [Nat.reduceMul, Nat.reduceEqDiff, Go.Addr.add, ↓reduceIte] at hw252_0)
            obtain rfl : ad251 = ad252 := (by injection e252)
            (try simp only [show (2 : Int).toNat = 2 from rfl, Nat.reduceMul, Nat.reduceEqDiff, Go.Addr.add, ↓reduceIte] at hx252_0)
            have qi252 : (2 < l0.length) = True := eq_true (by omega)
            (try rw [show ((2 : Int)).toNat = 2 from rfl] at hx252_0)
            replace hx252_0 := (HB.out.cell (World.block_lt_of_cell? w _ hx252_0)).trans hx252_0
            replace p252 := eq_true p252
            replace q252 := eq_true q252
            have p253 : 0 ≤ (3 : Int) := (by omega)
            have q253 : 3 < (l0.length : Int) := of_decide_eq_true (by first | (with_reducible assumption) | assumption)
            obtain ⟨ad253, e253, hx253_0⟩ := Kd.at_int HR0.out 3 p253 q253
            have hw253_0 := hx253_0
            (try rw [show ((3 : Int)).toNat = 3 from rfl] at hw253_0)
            (try rw [show 3 * 1 = 3 from rfl] at hw253_0)
            (try simp only [Nat.reduceMul, Nat.reduceEqDiff, Go.Addr.add, ↓reduceIte] at hw253_0)
            obtain rfl : ad251 = ad253 := (by injection e253)
            (try simp only [show (3 : Int).toNat = 3 from rfl, Nat.reduceMul, Nat.reduceEqDiff, Go.Addr.add, ↓reduceIte] at hx253_0)
            have qi253 : (3 < l0.length) = True := eq_true (by omega)
            (try rw [show ((3 : Int)).toNat = 3 from rfl] at hx253_0)
            replace hx253_0 := (HB.out.cell (World.block_lt_of_cell? w _ hx253_0)).trans hx253_0
            replace p253 := eq_true p253
            replace q253 := eq_true q253
            have p254 : 0 ≤ (1 : Int) := (by omega)
            have q254 : 1 < (l0.length : Int) := of_decide_eq_true (by first | (with_reducible assumption) | assumption)
            obtain ⟨ad254, e254, hx254_0⟩ := Kd.at_int HR0.out 1 p254 q254
            have hw254_0 := hx254_0
            (try rw [show ((1 : Int)).toNat = 1 from rfl] at hw254_0)
            (try rw [show 1 * 1 = 1 from rfl] at hw254_0)
            (try simp only [Nat.reduceMul, Nat.reduceEqDiff, Go.Addr.add, ↓reduceIte] at hw254_0)
            obtain rfl : ad251 = ad254 := (by injection e254)
            (try simp only [show (1 : Int).toNat = 1 from rfl, Nat.reduceMul, Nat.reduceEqDiff, Go.Addr.add, ↓reduceIte] at hx254_0)
            have qi254 : (1 < l0.length) = True := eq_true (by omega)
            (try rw [show ((1 : Int)).toNat = 1 from rfl] at hx254_0)
            replace hx254_0 := (HB.out.cell (World.block_lt_of_cell? w _ hx254_0)).trans hx254_0
            replace p254 := eq_true p254
            replace q254 := eq_true q254
            refine start_ (n := 24) (S := fun w' => w'.cell? ⟨ad251.block, ad251.off + 1, none⟩ = some (.int .u8 (rd l0 1)) ∧ w'.cell? ⟨ad251.block, ad251.off + 2, none⟩ = some (.int .u8 (rd l0 2)) ∧ w'.cell? ⟨ad251.block, ad251.off + 3, none⟩ = some (.int .u8 (rd l0 3)) ∧ w'.cell? ⟨ad251.block, ad251.off + 1, none⟩ = some (.int .u8 (rd l0 1))) (ds := []) #[false, false, false, false, false, false, false, false, false, false, false, false, false, false, false, false, false, false, false, false, false, false, false, false] (by kernel_rfl) rfl rfl ⟨((HB.out.cell (World.block_lt_of_cell? w _ hw251_0)).trans hw251_0), ((HB.out.cell (World.block_lt_of_cell? w _ hw252_0)).trans hw252_0), ((HB.out.cell (World.block_lt_of_cell? w _ hw253_0)).trans hw253_0), ((HB.out.cell (World.block_lt_of_cell? w _ hw254_0)).trans hw254_0)⟩ (fun hHeld => ?_); refine with_tabW transport_read.tab1 transport_read.bits1 (fun HT_ HW_ => ?_)
            generalize w61.drew = w62 at BK250 HB hx251_0 hx252_0 hx253_0 hx254_0 hHeld ⊢
            refine pure_ (i := 0) (N := some 7) (v := ?_) (a' := ?_) #[T', F', F', F', F', F', F', F', F', F', F', F', F', F', F', F', F', F', F', F', F', F', F', F'] rfl rfl (any_of HT_.out (by kernel_rfl)) (fun _ _ _ h => h) (Or.inl ⟨by rfl, ?_⟩) ?_ ?_;rotate_left;(intro w';go_simp;with_reducible rfl);rotate_left;(simp only [Act.put, sA, sZ, sS, i64_w, i32_w];rfl)
            refine pure_ (i := 1) (N := some 8) (v := ?_) (a' := ?_) #[T', T', F', F', F', F', F', F', F', F', F', F', F', F', F', F', F', F', F', F', F', F', F', F'] rfl rfl (any_of HT_.out (by kernel_rfl)) (fun _ _ _ h => h) (Or.inl ⟨by rfl, ?_⟩) ?_ ?_;rotate_left;(intro w';go_simp;with_reducible rfl);rotate_left;(simp only [Act.put, sA, sZ, sS, i64_w, i32_w];rfl)
            refine pure_ (i := 6) (N := some 13) (v := ?_) (a' := ?_) #[T', T', F', F', F', F', T', F', F', F', F', F', F', F', F', F', F', F', F', F', F', F', F', F'] rfl rfl (any_of HT_.out (by kernel_rfl)) (fun _ _ _ h => h) (Or.inl ⟨by rfl, ?_⟩) ?_ ?_;rotate_left;(intro w';go_simp;with_reducible rfl);rotate_left;(simp only [Act.put, sA, sZ, sS, i64_w, i32_w];rfl)
            refine pure_ (i := 7) (N := some 14) (v := ?_) (a' := ?_) #[T', T', F', F', F', F', T', T', F', F', F', F', F', F', F', F', F', F', F', F', F', F', F', F'] rfl rfl (any_of HT_.out (by kernel_rfl)) (fun _ _ _ h => h) (Or.inl ⟨by rfl, ?_⟩) ?_ ?_;rotate_left;(intro w';go_simp;with_reducible rfl);rotate_left;(simp only [Act.put, sA, sZ, sS, i64_w, i32_w];rfl)
            refine pure_ (i := 11) (N := some 18) (v := ?_) (a' := ?_) #[T', T', F', F', F', F', T', T', F', F', F', T', F', F', F', F', F', F', F', F', F', F', F', F'] rfl rfl (any_of HT_.out (by kernel_rfl)) (fun _ _ _ h => h) (Or.inl ⟨by rfl, ?_⟩) ?_ ?_;rotate_left;(intro w';go_simp;with_reducible rfl);rotate_left;(simp only [Act.put, sA, sZ, sS, i64_w, i32_w];rfl)
            refine pure_ (i := 12) (N := some 19) (v := ?_) (a' := ?_) #[T', T', F', F', F', F', T', T', F', F', F', T', T', F', F', F', F', F', F', F', F', F', F', F'] rfl rfl (any_of HT_.out (by kernel_rfl)) (fun _ _ _ h => h) (Or.inl ⟨by rfl, ?_⟩) ?_ ?_;rotate_left;(intro w';go_simp;with_reducible rfl);rotate_left;(simp only [Act.put, sA, sZ, sS, i64_w, i32_w];rfl)
            refine pure_ (i := 16) (N := some 23) (v := ?_) (a' := ?_) #[T', T', F', F', F', F', T', T', F', F', F', T', T', F', F', F', T', F', F', F', F', F', F', F'] rfl rfl (any_of HT_.out (by kernel_rfl)) (fun _ _ _ h => h) (Or.inl ⟨by rfl, ?_⟩) ?_ ?_;rotate_left;(intro w';go_simp;with_reducible rfl);rotate_left;(simp only [Act.put, sA, sZ, sS, i64_w, i32_w];rfl)
            refine pure_ (i := 17) (N := some 24) (v := ?_) (a' := ?_) #[T', T', F', F', F', F', T', T', F', F', F', T', T', F', F', F', T', T', F', F', F', F', F', F'] rfl rfl (any_of HT_.out (by kernel_rfl)) (fun _ _ _ h => h) (Or.inl ⟨by rfl, ?_⟩) ?_ ?_;rotate_left;(intro w';go_simp;with_reducible rfl);rotate_left;(simp only [Act.put, sA, sZ, sS, i64_w, i32_w];rfl)
            refine take_ (i := 2) (N := some 9) (v := ?_) (a' := ?_) #[T', T', T', F', F', F', T', T', F', F', F', T', T', F', F', F', T', T', F', F', F', F', F', F'] rfl rfl (take_ofW HT_.out HW_.out (by kernel_rfl)) (fun _ _ _ h => h) (Or.inl ⟨by rfl, ?_⟩) hHeld ?_ ?_;rotate_left;(rintro w' ⟨s0, s1, s2, s3⟩;go_simp;with_reducible rfl);rotate_left;(simp only [Act.put, sA, sZ, sS, i64_w, i32_w];rfl)
            refine pure_ (i := 3) (N := some 10) (v := ?_) (a' := ?_) #[T', T', T', T', F', F', T', T', F', F', F', T', T', F', F', F', T', T', F', F', F', F', F', F'] rfl rfl (any_of HT_.out (by kernel_rfl)) (fun _ _ _ h => h) (Or.inl ⟨by rfl, ?_⟩) ?_ ?_;rotate_left;(intro w';go_simp;with_reducible rfl);rotate_left;(simp only [Act.put, sA, sZ, sS, i64_w, i32_w];rfl)
            refine pure_ (i := 4) (N := some 11) (v := ?_) (a' := ?_) #[T', T', T', T', T', F', T', T', F', F', F', T', T', F', F', F', T', T', F', F', F', F', F', F'] rfl rfl (any_of HT_.out (by kernel_rfl)) (fun _ _ _ h => h) (Or.inl ⟨by rfl, ?_⟩) ?_ ?_;rotate_left;(intro w';go_simp;with_reducible rfl);rotate_left;(simp only [Act.put, sA, sZ, sS, i64_w, i32_w];rfl)
            refine pure_ (i := 5) (N := some 12) (v := ?_) (a' := ?_) #[T', T', T', T', T', T', T', T', F', F', F', T', T', F', F', F', T', T', F', F', F', F', F', F'] rfl rfl (any_of HT_.out (by kernel_rfl)) (fun _ _ _ h => h) (Or.inl ⟨by rfl, ?_⟩) ?_ ?_;rotate_left;(intro w';go_simp;with_reducible rfl);rotate_left;(simp only [Act.put, sA, sZ, sS, i64_w, i32_w];rfl)
            refine take_ (i := 8) (N := some 15) (v := ?_) (a' := ?_) #[T', T', T', T', T', T', T', T', T', F', F', T', T', F', F', F', T', T', F', F', F', F', F', F'] rfl rfl (take_ofW HT_.out HW_.out (by kernel_rfl)) (fun _ _ _ h => h) (Or.inl ⟨by rfl, ?_⟩) hHeld ?_ ?_;rotate_left;(rintro w' ⟨s0, s1, s2, s3⟩;go_simp;with_reducible rfl);rotate_left;(simp only [Act.put, sA, sZ, sS, i64_w, i32_w];rfl)
            refine pure_ (i := 9) (N := some 16) (v := ?_) (a' := ?_) #[T', T', T', T', T', T', T', T', T', T', F', T', T', F', F', F', T', T', F', F', F', F', F', F'] rfl rfl (any_of HT_.out (by kernel_rfl)) (fun _ _ _ h => h) (Or.inl ⟨by rfl, ?_⟩) ?_ ?_;rotate_left;(intro w';go_simp;with_reducible rfl);rotate_left;(simp only [Act.put, sA, sZ, sS, i64_w, i32_w];rfl)
            refine pure_ (i := 10) (N := some 17) (v := ?_) (a' := ?_) #[T', T', T', T', T', T', T', T', T', T', T', T', T', F', F', F', T', T', F', F', F', F', F', F'] rfl rfl (any_of HT_.out (by kernel_rfl)) (fun _ _ _ h => h) (Or.inl ⟨by rfl, ?_⟩) ?_ ?_;rotate_left;(intro w';go_simp;with_reducible rfl);rotate_left;(simp only [Act.put, sA, sZ, sS, i64_w, i32_w];rfl)
            refine take_ (i := 13) (N := some 20) (v := ?_) (a' := ?_) #[T', T', T', T', T', T', T', T', T', T', T', T', T', T', F', F', T', T', F', F', F', F', F', F'] rfl rfl (take_ofW HT_.out HW_.out (by kernel_rfl)) (fun _ _ _ h => h) (Or.inl ⟨by rfl, ?_⟩) hHeld ?_ ?_;rotate_left;(rintro w' ⟨s0, s1, s2, s3⟩;go_simp;with_reducible rfl);rotate_left;(simp only [Act.put, sA, sZ, sS, i64_w, i32_w];rfl)
            refine pure_ (i := 14) (N := some 21) (v := ?_) (a' := ?_) #[T', T', T', T', T', T', T', T', T', T', T', T', T', T', T', F', T', T', F', F', F', F', F', F'] rfl rfl (any_of HT_.out (by kernel_rfl)) (fun _ _ _ h => h) (Or.inl ⟨by rfl, ?_⟩) ?_ ?_;rotate_left;(intro w';go_simp;with_reducible rfl);rotate_left;(simp only [Act.put, sA, sZ, sS, i64_w, i32_w];rfl)
            refine pure_ (i := 15) (N := some 22) (v := ?_) (a' := ?_) #[T', T', T', T', T', T', T', T', T', T', T', T', T', T', T', T', T', T', F', F', F', F', F', F'] rfl rfl (any_of HT_.out (by kernel_rfl)) (fun _ _ _ h => h) (Or.inl ⟨by rfl, ?_⟩) ?_ ?_;rotate_left;(intro w';go_simp;with_reducible rfl);rotate_left;(simp only [Act.put, sA, sZ, sS, i64_w, i32_w];rfl)
            refine take_ (i := 18) (N := some 25) (v := ?_) (a' := ?_) #[T', T', T', T', T', T', T', T', T', T', T', T', T', T', T', T', T', T', T', F', F', F', F', F'] rfl rfl (take_ofW HT_.out HW_.out (by kernel_rfl)) (fun _ _ _ h => h) (Or.inl ⟨by rfl, ?_⟩) hHeld ?_ ?_;rotate_left;(rintro w' ⟨s0, s1, s2, s3⟩;go_simp;with_reducible rfl);rotate_left;(simp only [Act.put, sA, sZ, sS, i64_w, i32_w];rfl)
            refine pure_ (i := 19) (N := some 26) (v := ?_) (a' := ?_) #[T', T', T', T', T', T', T', T', T', T', T', T', T', T', T', T', T', T', T', T', F', F', F', F'] rfl rfl (any_of HT_.out (by kernel_rfl)) (fun _ _ _ h => h) (Or.inl ⟨by rfl, ?_⟩) ?_ ?_;rotate_left;(intro w';go_simp;with_reducible rfl);rotate_left;(simp only [Act.put, sA, sZ, sS, i64_w, i32_w];rfl)
            refine pure_ (i := 20) (N := some 27) (v := ?_) (a' := ?_) #[T', T', T', T', T', T', T', T', T', T', T', T', T', T', T', T', T', T', T', T', T', F', F', F'] rfl rfl (any_of HT_.out (by kernel_rfl)) (fun _ _ _ h => h) (Or.inl ⟨by rfl, ?_⟩) ?_ ?_;rotate_left;(intro w';go_simp;with_reducible rfl);rotate_left;(simp only [Act.put, sA, sZ, sS, i64_w, i32_w];rfl)
            refine pure_ (i := 21) (N := some 28) (v := ?_) (a' := ?_) #[T', T', T', T', T', T', T', T', T', T', T', T', T', T', T', T', T', T', T', T', T', T', F', F'] rfl rfl (any_of HT_.out (by kernel_rfl)) (fun _ _ _ h => h) (Or.inl ⟨by rfl, ?_⟩) ?_ ?_;rotate_left;(intro w';go_simp;with_reducible rfl);rotate_left;(simp only [Act.put, sA, sZ, sS, i64_w, i32_w];rfl)
            refine one_ (i := 22) (N := some 3) #[T', T', T', T', T', T', T', T', T', T', T', T', T', T', T', T', T', T', T', T', T', T', T', F'] rfl rfl (one_of HT_.out (by kernel_rfl)) (by decide) (fun K hK => ?_)
            refine box_step ?hg (N := 3) ?hd (cs := #[.int .i64 0, .int .i64 0, .bool false, .int .i64 0, .slice none 0 0]) (t := 28) ?hr ?_; (case hd => rfl); (case hg => rfl); (case hr => first | (go_simp; done) | (go_simp; rfl))
            intro gb255 hg w63 hbox hb
            have n0_ := Aside0.mk (yB (g := gb250) (o := .cells #[.int .i64 0, .int .i64 0, .bool false, .int .i64 0, .slice none 0 0] 28 (0, 0)) (by (with_reducible repeat (first | refine yN ?_ _ | refine yD ?_ | refine yA ?_ _)); exact BK250.out) hb)
            have n1_ := Aside0.mk (zT (by repeat (first | (with_reducible first | exact HB.out | apply zA | apply zN | apply zD | refine zP ?_ GE250.out) | exact HB.out)) hb)
            have n2_ := Aside0.mk (hbox)
            have n3_ := Aside0.mk ((by rw [hg]; exact (zS (by repeat (first | (with_reducible first | exact HB.out | apply zA | apply zN | apply zD | refine zP ?_ GE250.out) | exact HB.out))) : w.heap.size ≤ gb255))
            have n4_ := Aside0.mk ((by rw [hg]; exact (zS (by repeat (first | (with_reducible first | exact HB.out | apply zA | apply zN | apply zD | refine zP ?_ GE250.out) | exact HB.out))) : w.heap.size ≤ gb255))
            have n5_ := Aside0.mk ((by rw [hg]; exact Nat.ne_of_lt (blk_lt (g := gb250) (o := .cells #[.int .i64 0, .int .i64 0, .bool false, .int .i64 0, .slice none 0 0] 28 (0, 0)) (by (with_reducible repeat (first | refine yN ?_ _ | refine yD ?_ | refine yA ?_ _)); exact BK250.out)) : gb250 ≠ gb255))
            have n6_ := Aside0.mk ((by rw [hg]; exact Nat.ne_of_gt (blk_lt (g := gb250) (o := .cells #[.int .i64 0, .int .i64 0, .bool false, .int .i64 0, .slice none 0 0] 28 (0, 0)) (by (with_reducible repeat (first | refine yN ?_ _ | refine yD ?_ | refine yA ?_ _)); exact BK250.out)) : gb255 ≠ gb250))
            clear BK250
            clear HB
            have BK250 := n0_
            have HB := n1_
            have BK255 := n2_
            have GW255 := n3_
            have GE255 := n4_
            have NB250_255 := n5_
            have NB255_250 := n6_
            clear n0_ n1_ n2_ n3_ n4_ n5_ n6_
            clear hb hbox hg
            refine hK.out _ _ ⟨((HB.out.cell (World.block_lt_of_cell? w _ hw251_0)).trans hw251_0), ((HB.out.cell (World.block_lt_of_cell? w _ hw252_0)).trans hw252_0), ((HB.out.cell (World.block_lt_of_cell? w _ hw253_0)).trans hw253_0), ((HB.out.cell (World.block_lt_of_cell? w _ hw254_0)).trans hw254_0)⟩ (fun hHeld => ?_)
            clear hK K
            refine norm_ (a' := ?_) ?_ ?_
            rotate_left
            ·show Act.put _ (some 3) _ = _
             simp only [Act.put, sA, sZ, sS, i64_w, i32_w]
             rfl
            refine one_ (i := 23) (N := none) #[T', T', T', T', T', T', T', T', T', T', T', T', T', T', T', T', T', T', T', T', T', T', T', T'] rfl rfl (one_of HT_.out (by kernel_rfl)) (by decide) (fun K hK => ?_)
            have hs64 : w63.cell? ⟨gb255, 0, none⟩ = some (.int .i64 0) := (blk_cell BK255.out 0).trans rfl
            have hfs64 := blk_frozen BK255.out 0
            have hns64_0 := NB250_255.out
            have hms64_0 := NB255_250.out
            have hs65 : w63.cell? ⟨gb255, 1, none⟩ = some (.int .i64 0) := (blk_cell BK255.out 1).trans rfl
            have hfs65 := blk_frozen BK255.out 1
            have hns65_0 := NB250_255.out
            have hms65_0 := NB255_250.out
            have hs66 : w63.cell? ⟨gb255, 2, none⟩ = some (.bool false) := (blk_cell BK255.out 2).trans rfl
            have hfs66 := blk_frozen BK255.out 2
            have hns66_0 := NB250_255.out
            have hms66_0 := NB255_250.out
            have hs67 : w63.cell? ⟨gb255, 3, none⟩ = some (.int .i64 0) := (blk_cell BK255.out 3).trans rfl
            have hfs67 := blk_frozen BK255.out 3
            have hns67_0 := NB250_255.out
            have hms67_0 := NB255_250.out
            have hs68 : w63.cell? ⟨gb255, 4, none⟩ = some (.slice none 0 0) := (blk_cell BK255.out 4).trans rfl
            have hfs68 := blk_frozen BK255.out 4
            have hns68_0 := NB250_255.out
            have hms68_0 := NB255_250.out
            refine skip_ (w1 := ?_) (by rfl) rfl ?_ ?_
            rotate_left
            ·go_simp
             rfl
            refine hK.out _ _ ⟨((xF (p := ⟨gb255, _, none⟩) (by first | exact nE38 hw251_0 GW255.out | exact nF38 hw251_0 GW255.out | (rw [xB]; exact nE38 hw251_0 GW255.out) | (rw [xB]; exact nF38 hw251_0 GW255.out)) _).trans (((xF (p := ⟨gb255, _, none⟩) (by first | exact nE38 hw251_0 GW255.out | exact nF38 hw251_0 GW255.out | (rw [xB]; exact nE38 hw251_0 GW255.out) | (rw [xB]; exact nF38 hw251_0 GW255.out)) _).trans (((xF (p := ⟨gb255, _, none⟩) (by first | exact nE38 hw251_0 GW255.out | exact nF38 hw251_0 GW255.out | (rw [xB]; exact nE38 hw251_0 GW255.out) | (rw [xB]; exact nF38 hw251_0 GW255.out)) _).trans (((xF (p := ⟨gb255, _, none⟩) (by first | exact nE38 hw251_0 GW255.out | exact nF38 hw251_0 GW255.out | (rw [xB]; exact nE38 hw251_0 GW255.out) | (rw [xB]; exact nF38 hw251_0 GW255.out)) _).trans (((xF (p := ⟨gb255, _, none⟩) (by first | exact nE38 hw251_0 GW255.out | exact nF38 hw251_0 GW255.out | (rw [xB]; exact nE38 hw251_0 GW255.out) | (rw [xB]; exact nF38 hw251_0 GW255.out)) _).trans (hHeld.1)))))))))), ((xF (p := ⟨gb255, _, none⟩) (by first | exact nE38 hw252_0 GW255.out | exact nF38 hw252_0 GW255.out | (rw [xB]; exact nE38 hw252_0 GW255.out) | (rw [xB]; exact nF38 hw252_0 GW255.out)) _).trans (((xF (p := ⟨gb255, _, none⟩) (by first | exact nE38 hw252_0 GW255.out | exact nF38 hw252_0 GW255.out | (rw [xB]; exact nE38 hw252_0 GW255.out) | (rw [xB]; exact nF38 hw252_0 GW255.out)) _).trans (((xF (p := ⟨gb255, _, none⟩) (by first | exact nE38 hw252_0 GW255.out | exact nF38 hw252_0 GW255.out | (rw [xB]; exact nE38 hw252_0 GW255.out) | (rw [xB]; exact nF38 hw252_0 GW255.out)) _).trans (((xF (p := ⟨gb255, _, none⟩) (by first | exact nE38 hw252_0 GW255.out | exact nF38 hw252_0 GW255.out | (rw [xB]; exact nE38 hw252_0 GW255.out) | (rw [xB]; exact nF38 hw252_0 GW255.out)) _).trans (((xF (p := ⟨gb255, _, none⟩) (by first | exact nE38 hw252_0 GW255.out | exact nF38 hw252_0 GW255.out | (rw [xB]; exact nE38 hw252_0 GW255.out) | (rw [xB]; exact nF38 hw252_0 GW255.out)) _).trans (hHeld.2.1)))))))))), ((xF (p := ⟨gb255, _, none⟩) (by first | exact nE38 hw253_0 GW255.out | exact nF38 hw253_0 GW255.out | (rw [xB]; exact nE38 hw253_0 GW255.out) | (rw [xB]; exact nF38 hw253_0 GW255.out)) _).trans (((xF (p := ⟨gb255, _, none⟩) (by first | exact nE38 hw253_0 GW255.out | exact nF38 hw253_0 GW255.out | (rw [xB]; exact nE38 hw253_0 GW255.out) | (rw [xB]; exact nF38 hw253_0 GW255.out)) _).trans (((xF (p := ⟨gb255, _, none⟩) (by first | exact nE38 hw253_0 GW255.out | exact nF38 hw253_0 GW255.out | (rw [xB]; exact nE38 hw253_0 GW255.out) | (rw [xB]; exact nF38 hw253_0 GW255.out)) _).trans (((xF (p := ⟨gb255, _, none⟩) (by first | exact nE38 hw253_0 GW255.out | exact nF38 hw253_0 GW255.out | (rw [xB]; exact nE38 hw253_0 GW255.out) | (rw [xB]; exact nF38 hw253_0 GW255.out)) _).trans (((xF (p := ⟨gb255, _, none⟩) (by first | exact nE38 hw253_0 GW255.out | exact nF38 hw253_0 GW255.out | (rw [xB]; exact nE38 hw253_0 GW255.out) | (rw [xB]; exact nF38 hw253_0 GW255.out)) _).trans (hHeld.2.2.1)))))))))), ((xF (p := ⟨gb255, _, none⟩) (by first | exact nE38 hw254_0 GW255.out | exact nF38 hw254_0 GW255.out | (rw [xB]; exact nE38 hw254_0 GW255.out) | (rw [xB]; exact nF38 hw254_0 GW255.out)) _).trans (((xF (p := ⟨gb255, _, none⟩) (by first | exact nE38 hw254_0 GW255.out | exact nF38 hw254_0 GW255.out | (rw [xB]; exact nE38 hw254_0 GW255.out) | (rw [xB]; exact nF38 hw254_0 GW255.out)) _).trans (((xF (p := ⟨gb255, _, none⟩) (by first | exact nE38 hw254_0 GW255.out | exact nF38 hw254_0 GW255.out | (rw [xB]; exact nE38 hw254_0 GW255.out) | (rw [xB]; exact nF38 hw254_0 GW255.out)) _).trans (((xF (p := ⟨gb255, _, none⟩) (by first | exact nE38 hw254_0 GW255.out | exact nF38 hw254_0 GW255.out | (rw [xB]; exact nE38 hw254_0 GW255.out) | (rw [xB]; exact nF38 hw254_0 GW255.out)) _).trans (((xF (p := ⟨gb255, _, none⟩) (by first | exact nE38 hw254_0 GW255.out | exact nF38 hw254_0 GW255.out | (rw [xB]; exact nE38 hw254_0 GW255.out) | (rw [xB]; exact nF38 hw254_0 GW255.out)) _).trans (hHeld.2.2.2))))))))))⟩ (fun hHeld => ?_)
            clear hK K
            refine done_ (done_of HT_.out (by kernel_rfl)) ?_
            have p256 : 0 ≤ (3 : Int) := (by omega)
            have q256 : 3 < (l0.length : Int) := of_decide_eq_true (by first | (with_reducible assumption) | assumption)
            obtain ⟨ad256, e256, hx256_0⟩ := Kd.at_int HR0.out 3 p256 q256
            obtain rfl : ad251 = ad256 := (by injection e256)
            (try simp only [show (3 : Int).toNat = 3 from rfl, Nat.reduceMul, Nat.reduceEqDiff, Go.Addr.add, ↓reduceIte] at hx256_0)
            have qi256 : (3 < l0.length) = True := eq_true (by omega)
            (try rw [show ((3 : Int)).toNat = 3 from rfl] at hx256_0)
            have hn256_0 : ad251.block ≠ gb255 := Nat.ne_of_lt (Nat.lt_of_lt_of_le (by have := World.block_lt_of_cell? _ _ hx256_0; first | rwa [xB] at this | exact this) GW255.out)
            have hn256_1 : ad251.block ≠ gb255 := Nat.ne_of_lt (Nat.lt_of_lt_of_le (by have := World.block_lt_of_cell? _ _ hx256_0; first | rwa [xB] at this | exact this) GW255.out)
            have hn256_2 : ad251.block ≠ gb255 := Nat.ne_of_lt (Nat.lt_of_lt_of_le (by have := World.block_lt_of_cell? _ _ hx256_0; first | rwa [xB] at this | exact this) GW255.out)
            have hn256_3 : ad251.block ≠ gb255 := Nat.ne_of_lt (Nat.lt_of_lt_of_le (by have := World.block_lt_of_cell? _ _ hx256_0; first | rwa [xB] at this | exact this) GW255.out)
            have hn256_4 : ad251.block ≠ gb255 := Nat.ne_of_lt (Nat.lt_of_lt_of_le (by have := World.block_lt_of_cell? _ _ hx256_0; first | rwa [xB] at this | exact this) GW255.out)
            replace hx256_0 := (HB.out.cell (World.block_lt_of_cell? w _ hx256_0)).trans hx256_0
            replace hx256_0 := (xF (p := ⟨gb255, 0, none⟩) (by first | (rw [xB]; exact hn256_0) | (show (Addr.add _ _).block ≠ _; rw [xB]; exact hn256_0) | exact hn256_0) (.int .i64 (Go.bits .or .i64 (wrap64 ((wrap64 (Go.bits .and .u8 (rd l0 1) 31)) * 256)) (wrap64 (rd l0 2))))).trans hx256_0
            replace hx256_0 := (xF (p := ⟨gb255, 1, none⟩) (by first | (rw [xB]; exact hn256_1) | (show (Addr.add _ _).block ≠ _; rw [xB]; exact hn256_1) | exact hn256_1) (.int .i64 (wrap64 (Go.bits .and .u8 (rd l0 3) 15)))).trans hx256_0
            replace hx256_0 := (xF (p := ⟨gb255, 2, none⟩) (by first | (rw [xB]; exact hn256_2) | (show (Addr.add _ _).block ≠ _; rw [xB]; exact hn256_2) | exact hn256_2) (.bool ((Go.bits .and .u8 (rd l0 1) 64) != 0))).trans hx256_0
            replace hx256_0 := (xF (p := ⟨gb255, 3, none⟩) (by first | (rw [xB]; exact hn256_3) | (show (Addr.add _ _).block ≠ _; rw [xB]; exact hn256_3) | exact hn256_3) (.int .i64 (-1))).trans hx256_0
            replace hx256_0 := (xF (p := ⟨gb255, 4, none⟩) (by first | (rw [xB]; exact hn256_4) | (show (Addr.add _ _).block ≠ _; rw [xB]; exact hn256_4) | exact hn256_4) (.slice none 0 0)).trans hx256_0
            clear hn256_0
            clear hn256_1
            clear hn256_2
            clear hn256_3
            clear hn256_4
            replace p256 := eq_true p256
            replace q256 := eq_true q256
            have p261 : 0 ≤ (4 : Int) := (by omega)
            have q261 : 4 < (l0.length : Int) := of_decide_eq_true (by first | (with_reducible assumption) | assumption)
            obtain ⟨ad261, e261, hx261_0⟩ := Kd.at_int HR0.out 4 p261 q261
            obtain rfl : ad251 = ad261 := (by injection e261)
            (try simp only [show (4 : Int).toNat = 4 from rfl, Nat.reduceMul, Nat.reduceEqDiff, Go.Addr.add, ↓reduceIte] at hx261_0)
            have qi261 : (4 < l0.length) = True := eq_true (by omega)
            (try rw [show ((4 : Int)).toNat = 4 from rfl] at hx261_0)
            have hn261_0 : ad251.block ≠ gb255 := Nat.ne_of_lt (Nat.lt_of_lt_of_le (by have := World.block_lt_of_cell? _ _ hx261_0; first | rwa [xB] at this | exact this) GW255.out)
            have hn261_1 : ad251.block ≠ gb255 := Nat.ne_of_lt (Nat.lt_of_lt_of_le (by have := World.block_lt_of_cell? _ _ hx261_0; first | rwa [xB] at this | exact this) GW255.out)
            have hn261_2 : ad251.block ≠ gb255 := Nat.ne_of_lt (Nat.lt_of_lt_of_le (by have := World.block_lt_of_cell? _ _ hx261_0; first | rwa [xB] at this | exact this) GW255.out)
            have hn261_3 : ad251.block ≠ gb255 := Nat.ne_of_lt (Nat.lt_of_lt_of_le (by have := World.block_lt_of_cell? _ _ hx261_0; first | rwa [xB] at this | exact this) GW255.out)
            have hn261_4 : ad251.block ≠ gb255 := Nat.ne_of_lt (Nat.lt_of_lt_of_le (by have := World.block_lt_of_cell? _ _ hx261_0; first | rwa [xB] at this | exact this) GW255.out)
            replace hx261_0 := (HB.out.cell (World.block_lt_of_cell? w _ hx261_0)).trans hx261_0
            replace hx261_0 := (xF (p := ⟨gb255, 0, none⟩) (by first | (rw [xB]; exact hn261_0) | (show (Addr.add _ _).block ≠ _; rw [xB]; exact hn261_0) | exact hn261_0) (.int .i64 (Go.bits .or .i64 (wrap64 ((wrap64 (Go.bits .and .u8 (rd l0 1) 31)) * 256)) (wrap64 (rd l0 2))))).trans hx261_0
            replace hx261_0 := (xF (p := ⟨gb255, 1, none⟩) (by first | (rw [xB]; exact hn261_1) | (show (Addr.add _ _).block ≠ _; rw [xB]; exact hn261_1) | exact hn261_1) (.int .i64 (wrap64 (Go.bits .and .u8 (rd l0 3) 15)))).trans hx261_0
            replace hx261_0 := (xF (p := ⟨gb255, 2, none⟩) (by first | (rw [xB]; exact hn261_2) | (show (Addr.add _ _).block ≠ _; rw [xB]; exact hn261_2) | exact hn261_2) (.bool ((Go.bits .and .u8 (rd l0 1) 64) != 0))).trans hx261_0
            replace hx261_0 := (xF (p := ⟨gb255, 3, none⟩) (by first | (rw [xB]; exact hn261_3) | (show (Addr.add _ _).block ≠ _; rw [xB]; exact hn261_3) | exact hn261_3) (.int .i64 (-1))).trans hx261_0
            replace hx261_0 := (xF (p := ⟨gb255, 4, none⟩) (by first | (rw [xB]; exact hn261_4) | (show (Addr.add _ _).block ≠ _; rw [xB]; exact hn261_4) | exact hn261_4) (.slice none 0 0)).trans hx261_0
            clear hn261_0
            clear hn261_1
            clear hn261_2
            clear hn261_3
            clear hn261_4
            replace p261 := eq_true p261
            replace q261 := eq_true q261
            have p262 : 0 ≤ (5 : Int) := (by omega)
            have q262 : 5 < (l0.length : Int) := of_decide_eq_true (by first | (with_reducible assumption) | assumption)
            obtain ⟨ad262, e262, hx262_0⟩ := Kd.at_int HR0.out 5 p262 q262
            obtain rfl : ad251 = ad262 := (by injection e262)
            (try simp only [show (5 : Int).toNat = 5 from rfl, Nat.reduceMul, Nat.reduceEqDiff, Go.Addr.add, ↓reduceIte] at hx262_0)
            have qi262 : (5 < l0.length) = True := eq_true (by omega)
            (try rw [show ((5 : Int)).toNat = 5 from rfl] at hx262_0)
            have hn262_0 : ad251.block ≠ gb255 := Nat.ne_of_lt (Nat.lt_of_lt_of_le (by have := World.block_lt_of_cell? _ _ hx262_0; first | rwa [xB] at this | exact this) GW255.out)
            have hn262_1 : ad251.block ≠ gb255 := Nat.ne_of_lt (Nat.lt_of_lt_of_le (by have := World.block_lt_of_cell? _ _ hx262_0; first | rwa [xB] at this | exact this) GW255.out)
            have hn262_2 : ad251.block ≠ gb255 := Nat.ne_of_lt (Nat.lt_of_lt_of_le (by have := World.block_lt_of_cell? _ _ hx262_0; first | rwa [xB] at this | exact this) GW255.out)
            have hn262_3 : ad251.block ≠ gb255 := Nat.ne_of_lt (Nat.lt_of_lt_of_le (by have := World.block_lt_of_cell? _ _ hx262_0; first | rwa [xB] at this | exact this) GW255.out)
            have hn262_4 : ad251.block ≠ gb255 := Nat.ne_of_lt (Nat.lt_of_lt_of_le (by have := World.block_lt_of_cell? _ _ hx262_0; first | rwa [xB] at this | exact this) GW255.out)
            replace hx262_0 := (HB.out.cell (World.block_lt_of_cell? w _ hx262_0)).trans hx262_0
            replace hx262_0 := (xF (p := ⟨gb255, 0, none⟩) (by first | (rw [xB]; exact hn262_0) | (show (Addr.add _ _).block ≠ _; rw [xB]; exact hn262_0) | exact hn262_0) (.int .i64 (Go.bits .or .i64 (wrap64 ((wrap64 (Go.bits .and .u8 (rd l0 1) 31)) * 256)) (wrap64 (rd l0 2))))).trans hx262_0
            replace hx262_0 := (xF (p := ⟨gb255, 1, none⟩) (by first | (rw [xB]; exact hn262_1) | (show (Addr.add _ _).block ≠ _; rw [xB]; exact hn262_1) | exact hn262_1) (.int .i64 (wrap64 (Go.bits .and .u8 (rd l0 3) 15)))).trans hx262_0
            replace hx262_0 := (xF (p := ⟨gb255, 2, none⟩) (by first | (rw [xB]; exact hn262_2) | (show (Addr.add _ _).block ≠ _; rw [xB]; exact hn262_2) | exact hn262_2) (.bool ((Go.bits .and .u8 (rd l0 1) 64) != 0))).trans hx262_0
            replace hx262_0 := (xF (p := ⟨gb255, 3, none⟩) (by first | (rw [xB]; exact hn262_3) | (show (Addr.add _ _).block ≠ _; rw [xB]; exact hn262_3) | exact hn262_3) (.int .i64 (-1))).trans hx262_0
            replace hx262_0 := (xF (p := ⟨gb255, 4, none⟩) (by first | (rw [xB]; exact hn262_4) | (show (Addr.add _ _).block ≠ _; rw [xB]; exact hn262_4) | exact hn262_4) (.slice none 0 0)).trans hx262_0
            clear hn262_0
            clear hn262_1
            clear hn262_2
            clear hn262_3
            clear hn262_4
            replace p262 := eq_true p262
            replace q262 := eq_true q262
            obtain ⟨i069, hi069, _, hsz69, _⟩ := info_parts info5
            obtain ⟨A69, hcut69, hA69, hC69⟩ := print_mid_of (P := Try.prog) (Value.int .u8) 0 22 5 .i64 .i64 Try.underlying22 hi069 hsz69 (some ad251) c0 l0 (ji56) 188 (of_decide_eq_true (by first | (with_reducible assumption) | assumption)) (by first | omega | exact of_decide_eq_true (by first | (with_reducible assumption) | assumption)) (of_decide_eq_true (by first | (with_reducible assumption) | assumption)) HC0.out
            have HR274 := Aside0.mk (Kd.C_of_reads (h1 := fun _ => rfl) (hA69 _ (Kd.reads_of_C HR0.out)))
            have HC274 := Aside0.mk hC69
            clear hA69 hC69 hi069 hsz69
            try go_wp2_with (first | ((with_reducible refine xC (f := 42) rfl ?_); refine goesL_ (some 96) rfl rfl Try.func42 (by kernel_rfl) rfl #[.slice A69 ((l0.take 188).drop ((ji56) : Int).toNat).length (c0 - (ji56).toNat)] rfl (by (try simp only [List.map_toArray, List.map_cons, List.map_nil]); first | done | (rw [show ((l0.take 188).drop ((ji56) : Int).toNat).length = (188 - (ji56).toNat) from (by rw [List.length_drop, List.length_take]; have h_ : (188 : Int) ≤ (l0.length : Int) := of_decide_eq_true (by first | (with_reducible assumption) | assumption); omega)] <;> rfl) | (simp only [hji56]; rfl) | rfl | (simp only [List.length_drop, List.length_take]; rfl)) ?_; (with_reducible refine (slices_Clone_byte_byte.calls _ _ ((l0.take 188).drop ((ji56) : Int).toNat) t275 _ ?side1 ?side2 A60.out).mono ?_); (case side1 => exact Kd.C_below HR274.out (by repeat (first | (with_reducible first | exact HB.out | apply zA | apply zN | apply zD | refine zP ?_ GE250.out | refine zP ?_ GE255.out) | exact HB.out))); (case side2 => exact HC274.out); rintro e w70 ⟨v276, rfl, ho0, hb⟩; refine ⟨_, rfl, ?_⟩; have n0_ := Aside0.mk (Kd.R_lower ho0 (zS (by repeat (first | (with_reducible first | exact HB.out | apply zA | apply zN | apply zD | refine zP ?_ GE250.out | refine zP ?_ GE255.out) | exact HB.out)))); have n1_ := Aside0.mk (yB (g := gb250) (o := .cells #[.int .i64 0, .int .i64 0, .bool false, .int .i64 0, .slice none 0 0] 28 (0, 0)) (by (with_reducible repeat (first | refine yN ?_ _ | refine yD ?_ | refine yA ?_ _)); refine blk_far ?_ NB250_255.out _; (with_reducible repeat (first | refine yN ?_ _ | refine yD ?_ | refine yA ?_ _)); refine blk_far ?_ NB250_255.out _; (with_reducible repeat (first | refine yN ?_ _ | refine yD ?_ | refine yA ?_ _)); refine blk_far ?_ NB250_255.out _; (with_reducible repeat (first | refine yN ?_ _ | refine yD ?_ | refine yA ?_ _)); refine blk_far ?_ NB250_255.out _; (with_reducible repeat (first | refine yN ?_ _ | refine yD ?_ | refine yA ?_ _)); refine blk_far ?_ NB250_255.out _; (with_reducible repeat (first | refine yN ?_ _ | refine yD ?_ | refine yA ?_ _)); exact BK250.out) hb); have n2_ := Aside0.mk (yB (g := gb255) (o := .cells #[.int .i64 (Go.bits .or .i64 (wrap64 ((wrap64 (Go.bits .and .u8 (rd l0 1) 31)) * 256)) (wrap64 (rd l0 2))), .int .i64 (wrap64 (Go.bits .and .u8 (rd l0 3) 15)), .bool ((Go.bits .and .u8 (rd l0 1) 64) != 0), .int .i64 (-1), .slice none 0 0] 28 (0, 0)) (by (with_reducible repeat (first | refine yN ?_ _ | refine yD ?_ | refine yA ?_ _)); refine blk_put (cs := #[.int .i64 (Go.bits .or .i64 (wrap64 ((wrap64 (Go.bits .and .u8 (rd l0 1) 31)) * 256)) (wrap64 (rd l0 2))), .int .i64 (wrap64 (Go.bits .and .u8 (rd l0 3) 15)), .bool ((Go.bits .and .u8 (rd l0 1) 64) != 0), .int .i64 (-1), .slice none 0 0]) ?_ 4 _ rfl; (with_reducible repeat (first | refine yN ?_ _ | refine yD ?_ | refine yA ?_ _)); refine blk_put (cs := #[.int .i64 (Go.bits .or .i64 (wrap64 ((wrap64 (Go.bits .and .u8 (rd l0 1) 31)) * 256)) (wrap64 (rd l0 2))), .int .i64 (wrap64 (Go.bits .and .u8 (rd l0 3) 15)), .bool ((Go.bits .and .u8 (rd l0 1) 64) != 0), .int .i64 0, .slice none 0 0]) ?_ 3 _ rfl; (with_reducible repeat (first | refine yN ?_ _ | refine yD ?_ | refine yA ?_ _)); refine blk_put (cs := #[.int .i64 (Go.bits .or .i64 (wrap64 ((wrap64 (Go.bits .and .u8 (rd l0 1) 31)) * 256)) (wrap64 (rd l0 2))), .int .i64 (wrap64 (Go.bits .and .u8 (rd l0 3) 15)), .bool false, .int .i64 0, .slice none 0 0]) ?_ 2 _ rfl; (with_reducible repeat (first | refine yN ?_ _ | refine yD ?_ | refine yA ?_ _)); refine blk_put (cs := #[.int .i64 (Go.bits .or .i64 (wrap64 ((wrap64 (Go.bits .and .u8 (rd l0 1) 31)) * 256)) (wrap64 (rd l0 2))), .int .i64 0, .bool false, .int .i64 0, .slice none 0 0]) ?_ 1 _ rfl; (with_reducible repeat (first | refine yN ?_ _ | refine yD ?_ | refine yA ?_ _)); refine blk_put (cs := #[.int .i64 0, .int .i64 0, .bool false, .int .i64 0, .slice none 0 0]) ?_ 0 _ rfl; (with_reducible repeat (first | refine yN ?_ _ | refine yD ?_ | refine yA ?_ _)); exact BK255.out) hb); have n3_ := Aside0.mk (zT (by repeat (first | (with_reducible first | exact HB.out | apply zA | apply zN | apply zD | refine zP ?_ GE250.out | refine zP ?_ GE255.out) | exact HB.out)) hb); clear BK250; clear BK255; clear HB; have HO277 := n0_; have BK250 := n1_; have BK255 := n2_; have HB := n3_; clear n0_ n1_ n2_ n3_; (try clear hb); (try clear hb2); (try clear hk); (try clear hi); (try clear ho0); obtain ⟨Ao71, co71, eo71⟩ := Kd.R_slice HO277.out; subst eo71; have hnb72 := NB255_250.out; have hnc72 := NB250_255.out; have hcz73_0 : w70.cell? ⟨gb255, 0, none⟩ = some (.int .i64 (Go.bits .or .i64 (wrap64 ((wrap64 (Go.bits .and .u8 (rd l0 1) 31)) * 256)) (wrap64 (rd l0 2)))) := (blk_cell BK255.out 0).trans rfl; have hcz73_1 : w70.cell? ⟨gb255, 1, none⟩ = some (.int .i64 (wrap64 (Go.bits .and .u8 (rd l0 3) 15))) := (blk_cell BK255.out 1).trans rfl; have hcz73_2 : w70.cell? ⟨gb255, 2, none⟩ = some (.bool ((Go.bits .and .u8 (rd l0 1) 64) != 0)) := (blk_cell BK255.out 2).trans rfl; have hcz73_3 : w70.cell? ⟨gb255, 3, none⟩ = some (.int .i64 (-1)) := (blk_cell BK255.out 3).trans rfl; have hcz73_4 : w70.cell? ⟨gb255, 4, none⟩ = some (.slice none 0 0) := (blk_cell BK255.out 4).trans rfl; have hfz73_0 := blk_frozen BK255.out 0; have hfz73_1 := blk_frozen BK255.out 1; have hfz73_2 := blk_frozen BK255.out 2; have hfz73_3 := blk_frozen BK255.out 3; have hfz73_4 := blk_frozen BK255.out 4; have hcz74_0 : w70.cell? ⟨gb250, 0, none⟩ = some (.int .i64 0) := (blk_cell BK250.out 0).trans rfl; have hcz74_1 : w70.cell? ⟨gb250, 1, none⟩ = some (.int .i64 0) := (blk_cell BK250.out 1).trans rfl; have hcz74_2 : w70.cell? ⟨gb250, 2, none⟩ = some (.bool false) := (blk_cell BK250.out 2).trans rfl; have hcz74_3 : w70.cell? ⟨gb250, 3, none⟩ = some (.int .i64 0) := (blk_cell BK250.out 3).trans rfl; have hcz74_4 : w70.cell? ⟨gb250, 4, none⟩ = some (.slice none 0 0) := (blk_cell BK250.out 4).trans rfl; have hfz74_0 := blk_frozen BK250.out 0; have hfz74_1 := blk_frozen BK250.out 1; have hfz74_2 := blk_frozen BK250.out 2; have hfz74_3 := blk_frozen BK250.out 3; have hfz74_4 := blk_frozen BK250.out 4))
            refine bodyPost_ret (results_cell_row rfl _ _ gb250 28 #[.int .i64 (Go.bits .or .i64 (wrap64 ((wrap64 (Go.bits .and .u8 (rd l0 1) 31)) * 256)) (wrap64 (rd l0 2))), .int .i64 (wrap64 (Go.bits .and .u8 (rd l0 3) 15)), .bool ((Go.bits .and .u8 (rd l0 1) 64) != 0), .int .i64 (-1), .slice Ao71 t275.length co71] (0, 0) _ rfl (by (with_reducible repeat (first | refine yN ?_ _ | refine yD ?_ | refine yA ?_ _)); refine blk_put (cs := #[.int .i64 (Go.bits .or .i64 (wrap64 ((wrap64 (Go.bits .and .u8 (rd l0 1) 31)) * 256)) (wrap64 (rd l0 2))), .int .i64 (wrap64 (Go.bits .and .u8 (rd l0 3) 15)), .bool ((Go.bits .and .u8 (rd l0 1) 64) != 0), .int .i64 (-1), .slice none 0 0]) ?_ 4 _ rfl; (with_reducible repeat (first | refine yN ?_ _ | refine yD ?_ | refine yA ?_ _)); refine blk_put (cs := #[.int .i64 (Go.bits .or .i64 (wrap64 ((wrap64 (Go.bits .and .u8 (rd l0 1) 31)) * 256)) (wrap64 (rd l0 2))), .int .i64 (wrap64 (Go.bits .and .u8 (rd l0 3) 15)), .bool ((Go.bits .and .u8 (rd l0 1) 64) != 0), .int .i64 0, .slice none 0 0]) ?_ 3 _ rfl; (with_reducible repeat (first | refine yN ?_ _ | refine yD ?_ | refine yA ?_ _)); refine blk_put (cs := #[.int .i64 (Go.bits .or .i64 (wrap64 ((wrap64 (Go.bits .and .u8 (rd l0 1) 31)) * 256)) (wrap64 (rd l0 2))), .int .i64 (wrap64 (Go.bits .and .u8 (rd l0 3) 15)), .bool false, .int .i64 0, .slice none 0 0]) ?_ 2 _ rfl; (with_reducible repeat (first | refine yN ?_ _ | refine yD ?_ | refine yA ?_ _)); refine blk_put (cs := #[.int .i64 (Go.bits .or .i64 (wrap64 ((wrap64 (Go.bits .and .u8 (rd l0 1) 31)) * 256)) (wrap64 (rd l0 2))), .int .i64 0, .bool false, .int .i64 0, .slice none 0 0]) ?_ 1 _ rfl; (with_reducible repeat (first | refine yN ?_ _ | refine yD ?_ | refine yA ?_ _)); refine blk_put (cs := #[.int .i64 0, .int .i64 0, .bool false, .int .i64 0, .slice none 0 0]) ?_ 0 _ rfl; (with_reducible repeat (first | refine yN ?_ _ | refine yD ?_ | refine yA ?_ _)); refine blk_far ?_ NB250_255.out _; (with_reducible repeat (first | refine yN ?_ _ | refine yD ?_ | refine yA ?_ _)); exact BK250.out) Try.underlying28 rfl (by kernel_rfl)) rfl ?_
            exact ⟨_, by first | rfl | (simp [errW_none, errW_some] <;> rfl) | (simp only [← hji56]; first | rfl | (simp [errW_none, errW_some] <;> rfl)) | (simp [*, errW_none, errW_some] <;> rfl), by (with_reducible repeat (first | apply Kd.R_alloc | apply Kd.R_drewN | apply Kd.R_drew)); exact Kd.R_mono (Kd.R_far (p := ⟨gb250, 4, none⟩) (Kd.R_far (p := ⟨gb250, 3, none⟩) (Kd.R_far (p := ⟨gb250, 2, none⟩) (Kd.R_far (p := ⟨gb250, 1, none⟩) (Kd.R_far (p := ⟨gb250, 0, none⟩) (Kd.R_far (p := ⟨gb255, 4, none⟩) (Kd.R_types (Kd.R_types HO277.out BK255.out (by decide)) BK250.out (by decide)) (fun _ hk => hk.1.2) (.slice Ao71 t275.length co71)) (fun _ hk => hk.2) (.int .i64 (Go.bits .or .i64 (wrap64 ((wrap64 (Go.bits .and .u8 (rd l0 1) 31)) * 256)) (wrap64 (rd l0 2))))) (fun _ hk => hk.2) (.int .i64 (wrap64 (Go.bits .and .u8 (rd l0 3) 15)))) (fun _ hk => hk.2) (.bool ((Go.bits .and .u8 (rd l0 1) 64) != 0))) (fun _ hk => hk.2) (.int .i64 (-1))) (fun _ hk => hk.2) (.slice Ao71 t275.length co71)) (fun _ hk => trivial), by repeat (first | (with_reducible first | exact HB.out | apply zA | apply zN | apply zD | refine zP ?_ GE250.out | refine zP ?_ GE255.out) | exact HB.out)⟩
           ·rw [if_neg c59] at H
            exact absurd H (by simp)
          ·rw [if_neg c58] at H
           exact absurd H (by simp)
         ·rw [if_neg c57] at H
          exact absurd H (by simp)
       ·rw [if_neg c25] at H
        exact absurd H (by simp)
      ·rw [if_neg c24] at H
       have c24b0 : decide (7 ≤ (wrap64 (rd l0 4))) = false := decide_eq_false c24
       clear c24
       obtain ⟨ji75, hji75⟩ : ∃ j_ : Int, (mn (wrap64 (5 + (wrap64 (rd l0 4)))) 188) = j_ := ⟨_, rfl⟩
       replace H : (if 0 ≤ (ji75) then (if (ji75) ≤ 188 then (if 188 ≤ (l0.length : Int) then ((slices_Clone_byte_byte.f ((l0.take 188).drop ((ji75) : Int).toNat)).bind fun t279 => (some (Go.bits .or .i64 (wrap64 ((wrap64 (Go.bits .and .u8 (rd l0 1) 31)) * 256)) (wrap64 (rd l0 2)), wrap64 (Go.bits .and .u8 (rd l0 3) 15), ((Go.bits .and .u8 (rd l0 1) 64) != 0), (-1), t279))) else (none)) else (none)) else (none)) = some (r1, r2, r3, r4, r5) := by first | (rw [hji75] at H; exact H) | (simp only [hji75] at H ⊢; exact H)
       (try (have hji75h : ji75 ≤ 188 := by (rw [← hji75]; unfold mn; (repeat' split) <;> omega)))
       (try (have hji75g : ji75 ≤ 64 := by omega))
       have hji75_ : (if 188 < (wrap64 (5 + (wrap64 (rd l0 4)))) then 188 else (wrap64 (5 + (wrap64 (rd l0 4))))) = ji75 := hji75
       by_cases c76 : 0 ≤ (ji75)
       ·rw [if_pos c76] at H
        have c76b0 := eq_true c76
        have c76b1 : decide (0 ≤ (ji75)) = true := decide_eq_true c76
        clear c76
        by_cases c77 : (ji75) ≤ 188
        ·rw [if_pos c77] at H
         have c77b0 := eq_true c77
         have c77b1 : decide ((ji75) ≤ 188) = true := decide_eq_true c77
         clear c77
         by_cases c78 : 188 ≤ (l0.length : Int)
         ·rw [if_pos c78] at H
          have c78b0 := eq_true c78
          have c78b1 : decide (188 ≤ (l0.length : Int)) = true := decide_eq_true c78
          clear c78
          replace H := Option.bind_eq_some_iff.mp H
          obtain ⟨t279, A790, H⟩ := H
          replace H : (some (Go.bits .or .i64 (wrap64 ((wrap64 (Go.bits .and .u8 (rd l0 1) 31)) * 256)) (wrap64 (rd l0 2)), wrap64 (Go.bits .and .u8 (rd l0 3) 15), ((Go.bits .and .u8 (rd l0 1) 64) != 0), (-1), t279)) = some (r1, r2, r3, r4, r5) := H
          have A79 := Aside0.mk A790
          clear A790
          simp only [Option.some.injEq, Prod.mk.injEq] at H
          obtain ⟨rfl, rfl, rfl, rfl, rfl⟩ := H
          go_enter Try.func37, Try.ntmps37
          try go_wp2_with (first | ((with_reducible refine xD (N := 2) rfl ?_); refine box_event ?hg (N := 2) ?hd (cs := #[.int .i64 0, .int .i64 0, .bool false, .int .i64 0, .slice none 0 0]) (t := 28) ?hr ?_; (case hd => rfl); (case hg => rfl); (case hr => first | (go_simp; done) | (go_simp; rfl)); intro gb250 hg w80 hbox hb; have n0_ := Aside0.mk (zT (by repeat (first | (with_reducible first | exact HB.out | apply zA | apply zN | apply zD) | exact HB.out)) hb); have n1_ := Aside0.mk (hbox); have n2_ := Aside0.mk ((by rw [hg]; exact (zS (by repeat (first | (with_reducible first | exact HB.out | apply zA | apply zN | apply zD) | exact HB.out))) : w.heap.size ≤ gb250)); have n3_ := n2_; clear HB; have HB := n0_; have BK250 := n1_; have GW250 := n2_; have GE250 := n3_; clear n0_ n1_ n2_ n3_; clear hb hbox hg))
          have n0_ := Aside0.mk (yD BK250.out)
          have n1_ := Aside0.mk (zD HB.out)
          clear BK250
          clear HB
          have BK250 := n0_
          have HB := n1_
          clear n0_ n1_
          have p251 : 0 ≤ (1 : Int) := (by omega)
          have q251 : 1 < (l0.length : Int) := of_decide_eq_true (by first | (with_reducible assumption) | assumption)
          obtain ⟨ad251, e251, hx251_0⟩ := Kd.at_int HR0.out 1 p251 q251
          have hw251_0 := hx251_0
          (try rw [show ((1 : Int)).toNat = 1 from rfl] at hw251_0)
          (try rw [show 1 * 1 = 1 from rfl] at hw251_0)
          (try simp only [Nat.reduceMul, Nat.reduceEqDiff, Go.Addr.add, ↓reduceIte] at hw251_0)
          cases e251
          (try simp only [show (1 : Int).toNat = 1 from rfl, Nat.reduceMul, Nat.reduceEqDiff, Go.Addr.add, ↓reduceIte] at hx251_0)
          have qi251 : (1 < l0.length) = True := eq_true (by omega)
          (try rw [show ((1 : Int)).toNat = 1 from rfl] at hx251_0)
          replace hx251_0 := (HB.out.cell (World.block_lt_of_cell? w _ hx251_0)).trans hx251_0
          replace p251 := eq_true p251
          replace q251 := eq_true q251
          have p252 : 0 ≤ (2 : Int) := (by omega)
          have q252 : 2 < (l0.length : Int) := of_decide_eq_true (by first | (with_reducible assumption) | assumption)
          obtain ⟨ad252, e252, hx252_0⟩ := Kd.at_int HR0.out 2 p252 q252
          have hw252_0 := hx252_0
          (try rw [show ((2 : Int)).toNat = 2 from rfl] at hw252_0)
          (try rw [show 2 * 1 = 2 from rfl] at hw252_0)
          (try simp only [Nat.reduceMul, Nat.reduceEqDiff, Go.Addr.add, ↓reduceIte] at hw252_0)
          obtain rfl : ad251 = ad252 := (by injection e252)
          (try simp only [show (2 : Int).toNat = 2 from rfl, Nat.reduceMul, Nat.reduceEqDiff, Go.Addr.add, ↓reduceIte] at hx252_0)
          have qi252 : (2 < l0.length) = True := eq_true (by omega)
          (try rw [show ((2 : Int)).toNat = 2 from rfl] at hx252_0)
          replace hx252_0 := (HB.out.cell (World.block_lt_of_cell? w _ hx252_0)).trans hx252_0
          replace p252 := eq_true p252
          replace q252 := eq_true q252
          have p253 : 0 ≤ (3 : Int) := (by omega)
          have q253 : 3 < (l0.length : Int) := of_decide_eq_true (by first | (with_reducible assumption) | assumption)
          obtain ⟨ad253, e253, hx253_0⟩ := Kd.at_int HR0.out 3 p253 q253
          have hw253_0 := hx253_0
          (try rw [show ((3 : Int)).toNat = 3 from rfl] at hw253_0)
          (try rw [show 3 * 1 = 3 from rfl] at hw253_0)
          (try simp only [Nat.reduceMul, Nat.reduceEqDiff, Go.Addr.add, ↓reduceIte] at hw253_0)
          obtain rfl : ad251 = ad253 := (by injection e253)
          (try simp only [show (3 : Int).toNat = 3 from rfl, Nat.reduceMul, Nat.reduceEqDiff, Go.Addr.add, ↓reduceIte] at hx253_0)
          have qi253 : (3 < l0.length) = True := eq_true (by omega)
          (try rw [show ((3 : Int)).toNat = 3 from rfl] at hx253_0)
          replace hx253_0 := (HB.out.cell (World.block_lt_of_cell? w _ hx253_0)).trans hx253_0
          replace p253 := eq_true p253
          replace q253 := eq_true q253
          have p254 : 0 ≤ (1 : Int) := (by omega)
          have q254 : 1 < (l0.length : Int) := of_decide_eq_true (by first | (with_reducible assumption) | assumption)
          obtain ⟨ad254, e254, hx254_0⟩ := Kd.at_int HR0.out 1 p254 q254
          have hw254_0 := hx254_0
          (try rw [show ((1 : Int)).toNat = 1 from rfl] at hw254_0)
          (try rw [show 1 * 1 = 1 from rfl] at hw254_0)
          (try simp only [Nat.reduceMul, Nat.reduceEqDiff, Go.Addr.add, ↓reduceIte] at hw254_0)
          obtain rfl : ad251 = ad254 := (by injection e254)
          (try simp only [show (1 : Int).toNat = 1 from rfl, Nat.reduceMul, Nat.reduceEqDiff, Go.Addr.add, ↓reduceIte] at hx254_0)
          have qi254 : (1 < l0.length) = True := eq_true (by omega)
          (try rw [show ((1 : Int)).toNat = 1 from rfl] at hx254_0)
          replace hx254_0 := (HB.out.cell (World.block_lt_of_cell? w _ hx254_0)).trans hx254_0
          replace p254 := eq_true p254
          replace q254 := eq_true q254
          refine start_ (n := 24) (S := fun w' => w'.cell? ⟨ad251.block, ad251.off + 1, none⟩ = some (.int .u8 (rd l0 1)) ∧ w'.cell? ⟨ad251.block, ad251.off + 2, none⟩ = some (.int .u8 (rd l0 2)) ∧ w'.cell? ⟨ad251.block, ad251.off + 3, none⟩ = some (.int .u8 (rd l0 3)) ∧ w'.cell? ⟨ad251.block, ad251.off + 1, none⟩ = some (.int .u8 (rd l0 1))) (ds := []) #[false, false, false, false, false, false, false, false, false, false, false, false, false, false, false, false, false, false, false, false, false, false, false, false] (by kernel_rfl) rfl rfl ⟨((HB.out.cell (World.block_lt_of_cell? w _ hw251_0)).trans hw251_0), ((HB.out.cell (World.block_lt_of_cell? w _ hw252_0)).trans hw252_0), ((HB.out.cell (World.block_lt_of_cell? w _ hw253_0)).trans hw253_0), ((HB.out.cell (World.block_lt_of_cell? w _ hw254_0)).trans hw254_0)⟩ (fun hHeld => ?_); refine with_tabW transport_read.tab1 transport_read.bits1 (fun HT_ HW_ => ?_)
          generalize w80.drew = w81 at BK250 HB hx251_0 hx252_0 hx253_0 hx254_0 hHeld ⊢
          refine pure_ (i := 0) (N := some 7) (v := ?_) (a' := ?_) #[T', F', F', F', F', F', F', F', F', F', F', F', F', F', F', F', F', F', F', F', F', F', F', F'] rfl rfl (any_of HT_.out (by kernel_rfl)) (fun _ _ _ h => h) (Or.inl ⟨by rfl, ?_⟩) ?_ ?_;rotate_left;(intro w';go_simp;with_reducible rfl);rotate_left;(simp only [Act.put, sA, sZ, sS, i64_w, i32_w];rfl)
          refine pure_ (i := 1) (N := some 8) (v := ?_) (a' := ?_) #[T', T', F', F', F', F', F', F', F', F', F', F', F', F', F', F', F', F', F', F', F', F', F', F'] rfl rfl (any_of HT_.out (by kernel_rfl)) (fun _ _ _ h => h) (Or.inl ⟨by rfl, ?_⟩) ?_ ?_;rotate_left;(intro w';go_simp;with_reducible rfl);rotate_left;(simp only [Act.put, sA, sZ, sS, i64_w, i32_w];rfl)
          refine pure_ (i := 6) (N := some 13) (v := ?_) (a' := ?_) #[T', T', F', F', F', F', T', F', F', F', F', F', F', F', F', F', F', F', F', F', F', F', F', F'] rfl rfl (any_of HT_.out (by kernel_rfl)) (fun _ _ _ h => h) (Or.inl ⟨by rfl, ?_⟩) ?_ ?_;rotate_left;(intro w';go_simp;with_reducible rfl);rotate_left;(simp only [Act.put, sA, sZ, sS, i64_w, i32_w];rfl)
          refine pure_ (i := 7) (N := some 14) (v := ?_) (a' := ?_) #[T', T', F', F', F', F', T', T', F', F', F', F', F', F', F', F', F', F', F', F', F', F', F', F'] rfl rfl (any_of HT_.out (by kernel_rfl)) (fun _ _ _ h => h) (Or.inl ⟨by rfl, ?_⟩) ?_ ?_;rotate_left;(intro w';go_simp;with_reducible rfl);rotate_left;(simp only [Act.put, sA, sZ, sS, i64_w, i32_w];rfl)
          refine pure_ (i := 11) (N := some 18) (v := ?_) (a' := ?_) #[T', T', F', F', F', F', T', T', F', F', F', T', F', F', F', F', F', F', F', F', F', F', F', F'] rfl rfl (any_of HT_.out (by kernel_rfl)) (fun _ _ _ h => h) (Or.inl ⟨by rfl, ?_⟩) ?_ ?_;rotate_left;(intro w';go_simp;with_reducible rfl);rotate_left;(simp only [Act.put, sA, sZ, sS, i64_w, i32_w];rfl)
          refine pure_ (i := 12) (N := some 19) (v := ?_) (a' := ?_) #[T', T', F', F', F', F', T', T', F', F', F', T', T', F', F', F', F', F', F', F', F', F', F', F'] rfl rfl (any_of HT_.out (by kernel_rfl)) (fun _ _ _ h => h) (Or.inl ⟨by rfl, ?_⟩) ?_ ?_;rotate_left;(intro w';go_simp;with_reducible rfl);rotate_left;(simp only [Act.put, sA, sZ, sS, i64_w, i32_w];rfl)
          refine pure_ (i := 16) (N := some 23) (v := ?_) (a' := ?_) #[T', T', F', F', F', F', T', T', F', F', F', T', T', F', F', F', T', F', F', F', F', F', F', F'] rfl rfl (any_of HT_.out (by kernel_rfl)) (fun _ _ _ h => h) (Or.inl ⟨by rfl, ?_⟩) ?_ ?_;rotate_left;(intro w';go_simp;with_reducible rfl);rotate_left;(simp only [Act.put, sA, sZ, sS, i64_w, i32_w];rfl)
          refine pure_ (i := 17) (N := some 24) (v := ?_) (a' := ?_) #[T', T', F', F', F', F', T', T', F', F', F', T', T', F', F', F', T', T', F', F', F', F', F', F'] rfl rfl (any_of HT_.out (by kernel_rfl)) (fun _ _ _ h => h) (Or.inl ⟨by rfl, ?_⟩) ?_ ?_;rotate_left;(intro w';go_simp;with_reducible rfl);rotate_left;(simp only [Act.put, sA, sZ, sS, i64_w, i32_w];rfl)
          refine take_ (i := 2) (N := some 9) (v := ?_) (a' := ?_) #[T', T', T', F', F', F', T', T', F', F', F', T', T', F', F', F', T', T', F', F', F', F', F', F'] rfl rfl (take_ofW HT_.out HW_.out (by kernel_rfl)) (fun _ _ _ h => h) (Or.inl ⟨by rfl, ?_⟩) hHeld ?_ ?_;rotate_left;(rintro w' ⟨s0, s1, s2, s3⟩;go_simp;with_reducible rfl);rotate_left;(simp only [Act.put, sA, sZ, sS, i64_w, i32_w];rfl)
          refine pure_ (i := 3) (N := some 10) (v := ?_) (a' := ?_) #[T', T', T', T', F', F', T', T', F', F', F', T', T', F', F', F', T', T', F', F', F', F', F', F'] rfl rfl (any_of HT_.out (by kernel_rfl)) (fun _ _ _ h => h) (Or.inl ⟨by rfl, ?_⟩) ?_ ?_;rotate_left;(intro w';go_simp;with_reducible rfl);rotate_left;(simp only [Act.put, sA, sZ, sS, i64_w, i32_w];rfl)
          refine pure_ (i := 4) (N := some 11) (v := ?_) (a' := ?_) #[T', T', T', T', T', F', T', T', F', F', F', T', T', F', F', F', T', T', F', F', F', F', F', F'] rfl rfl (any_of HT_.out (by kernel_rfl)) (fun _ _ _ h => h) (Or.inl ⟨by rfl, ?_⟩) ?_ ?_;rotate_left;(intro w';go_simp;with_reducible rfl);rotate_left;(simp only [Act.put, sA, sZ, sS, i64_w, i32_w];rfl)
          refine pure_ (i := 5) (N := some 12) (v := ?_) (a' := ?_) #[T', T', T', T', T', T', T', T', F', F', F', T', T', F', F', F', T', T', F', F', F', F', F', F'] rfl rfl (any_of HT_.out (by kernel_rfl)) (fun _ _ _ h => h) (Or.inl ⟨by rfl, ?_⟩) ?_ ?_;rotate_left;(intro w';go_simp;with_reducible rfl);rotate_left;(simp only [Act.put, sA, sZ, sS, i64_w, i32_w];rfl)
          refine take_ (i := 8) (N := some 15) (v := ?_) (a' := ?_) #[T', T', T', T', T', T', T', T', T', F', F', T', T', F', F', F', T', T', F', F', F', F', F', F'] rfl rfl (take_ofW HT_.out HW_.out (by kernel_rfl)) (fun _ _ _ h => h) (Or.inl ⟨by rfl, ?_⟩) hHeld ?_ ?_;rotate_left;(rintro w' ⟨s0, s1, s2, s3⟩;go_simp;with_reducible rfl);rotate_left;(simp only [Act.put, sA, sZ, sS, i64_w, i32_w];rfl)
          refine pure_ (i := 9) (N := some 16) (v := ?_) (a' := ?_) #[T', T', T', T', T', T', T', T', T', T', F', T', T', F', F', F', T', T', F', F', F', F', F', F'] rfl rfl (any_of HT_.out (by kernel_rfl)) (fun _ _ _ h => h) (Or.inl ⟨by rfl, ?_⟩) ?_ ?_;rotate_left;(intro w';go_simp;with_reducible rfl);rotate_left;(simp only [Act.put, sA, sZ, sS, i64_w, i32_w];rfl)
          refine pure_ (i := 10) (N := some 17) (v := ?_) (a' := ?_) #[T', T', T', T', T', T', T', T', T', T', T', T', T', F', F', F', T', T', F', F', F', F', F', F'] rfl rfl (any_of HT_.out (by kernel_rfl)) (fun _ _ _ h => h) (Or.inl ⟨by rfl, ?_⟩) ?_ ?_;rotate_left;(intro w';go_simp;with_reducible rfl);rotate_left;(simp only [Act.put, sA, sZ, sS, i64_w, i32_w];rfl)
          refine take_ (i := 13) (N := some 20) (v := ?_) (a' := ?_) #[T', T', T', T', T', T', T', T', T', T', T', T', T', T', F', F', T', T', F', F', F', F', F', F'] rfl rfl (take_ofW HT_.out HW_.out (by kernel_rfl)) (fun _ _ _ h => h) (Or.inl ⟨by rfl, ?_⟩) hHeld ?_ ?_;rotate_left;(rintro w' ⟨s0, s1, s2, s3⟩;go_simp;with_reducible rfl);rotate_left;(simp only [Act.put, sA, sZ, sS, i64_w, i32_w];rfl)
          refine pure_ (i := 14) (N := some 21) (v := ?_) (a' := ?_) #[T', T', T', T', T', T', T', T', T', T', T', T', T', T', T', F', T', T', F', F', F', F', F', F'] rfl rfl (any_of HT_.out (by kernel_rfl)) (fun _ _ _ h => h) (Or.inl ⟨by rfl, ?_⟩) ?_ ?_;rotate_left;(intro w';go_simp;with_reducible rfl);rotate_left;(simp only [Act.put, sA, sZ, sS, i64_w, i32_w];rfl)
          refine pure_ (i := 15) (N := some 22) (v := ?_) (a' := ?_) #[T', T', T', T', T', T', T', T', T', T', T', T', T', T', T', T', T', T', F', F', F', F', F', F'] rfl rfl (any_of HT_.out (by kernel_rfl)) (fun _ _ _ h => h) (Or.inl ⟨by rfl, ?_⟩) ?_ ?_;rotate_left;(intro w';go_simp;with_reducible rfl);rotate_left;(simp only [Act.put, sA, sZ, sS, i64_w, i32_w];rfl)
          refine take_ (i := 18) (N := some 25) (v := ?_) (a' := ?_) #[T', T', T', T', T', T', T', T', T', T', T', T', T', T', T', T', T', T', T', F', F', F', F', F'] rfl rfl (take_ofW HT_.out HW_.out (by kernel_rfl)) (fun _ _ _ h => h) (Or.inl ⟨by rfl, ?_⟩) hHeld ?_ ?_;rotate_left;(rintro w' ⟨s0, s1, s2, s3⟩;go_simp;with_reducible rfl);rotate_left;(simp only [Act.put, sA, sZ, sS, i64_w, i32_w];rfl)
          refine pure_ (i := 19) (N := some 26) (v := ?_) (a' := ?_) #[T', T', T', T', T', T', T', T', T', T', T', T', T', T', T', T', T', T', T', T', F', F', F', F'] rfl rfl (any_of HT_.out (by kernel_rfl)) (fun _ _ _ h => h) (Or.inl ⟨by rfl, ?_⟩) ?_ ?_;rotate_left;(intro w';go_simp;with_reducible rfl);rotate_left;(simp only [Act.put, sA, sZ, sS, i64_w, i32_w];rfl)
          refine pure_ (i := 20) (N := some 27) (v := ?_) (a' := ?_) #[T', T', T', T', T', T', T', T', T', T', T', T', T', T', T', T', T', T', T', T', T', F', F', F'] rfl rfl (any_of HT_.out (by kernel_rfl)) (fun _ _ _ h => h) (Or.inl ⟨by rfl, ?_⟩) ?_ ?_;rotate_left;(intro w';go_simp;with_reducible rfl);rotate_left;(simp only [Act.put, sA, sZ, sS, i64_w, i32_w];rfl)
          refine pure_ (i := 21) (N := some 28) (v := ?_) (a' := ?_) #[T', T', T', T', T', T', T', T', T', T', T', T', T', T', T', T', T', T', T', T', T', T', F', F'] rfl rfl (any_of HT_.out (by kernel_rfl)) (fun _ _ _ h => h) (Or.inl ⟨by rfl, ?_⟩) ?_ ?_;rotate_left;(intro w';go_simp;with_reducible rfl);rotate_left;(simp only [Act.put, sA, sZ, sS, i64_w, i32_w];rfl)
          refine one_ (i := 22) (N := some 3) #[T', T', T', T', T', T', T', T', T', T', T', T', T', T', T', T', T', T', T', T', T', T', T', F'] rfl rfl (one_of HT_.out (by kernel_rfl)) (by decide) (fun K hK => ?_)
          refine box_step ?hg (N := 3) ?hd (cs := #[.int .i64 0, .int .i64 0, .bool false, .int .i64 0, .slice none 0 0]) (t := 28) ?hr ?_; (case hd => rfl); (case hg => rfl); (case hr => first | (go_simp; done) | (go_simp; rfl))
          intro gb255 hg w82 hbox hb
          have n0_ := Aside0.mk (yB (g := gb250) (o := .cells #[.int .i64 0, .int .i64 0, .bool false, .int .i64 0, .slice none 0 0] 28 (0, 0)) (by (with_reducible repeat (first | refine yN ?_ _ | refine yD ?_ | refine yA ?_ _)); exact BK250.out) hb)
          have n1_ := Aside0.mk (zT (by repeat (first | (with_reducible first | exact HB.out | apply zA | apply zN | apply zD | refine zP ?_ GE250.out) | exact HB.out)) hb)
          have n2_ := Aside0.mk (hbox)
          have n3_ := Aside0.mk ((by rw [hg]; exact (zS (by repeat (first | (with_reducible first | exact HB.out | apply zA | apply zN | apply zD | refine zP ?_ GE250.out) | exact HB.out))) : w.heap.size ≤ gb255))
          have n4_ := Aside0.mk ((by rw [hg]; exact (zS (by repeat (first | (with_reducible first | exact HB.out | apply zA | apply zN | apply zD | refine zP ?_ GE250.out) | exact HB.out))) : w.heap.size ≤ gb255))
          have n5_ := Aside0.mk ((by rw [hg]; exact Nat.ne_of_lt (blk_lt (g := gb250) (o := .cells #[.int .i64 0, .int .i64 0, .bool false, .int .i64 0, .slice none 0 0] 28 (0, 0)) (by (with_reducible repeat (first | refine yN ?_ _ | refine yD ?_ | refine yA ?_ _)); exact BK250.out)) : gb250 ≠ gb255))
          have n6_ := Aside0.mk ((by rw [hg]; exact Nat.ne_of_gt (blk_lt (g := gb250) (o := .cells #[.int .i64 0, .int .i64 0, .bool false, .int .i64 0, .slice none 0 0] 28 (0, 0)) (by (with_reducible repeat (first | refine yN ?_ _ | refine yD ?_ | refine yA ?_ _)); exact BK250.out)) : gb255 ≠ gb250))
          clear BK250
          clear HB
          have BK250 := n0_
          have HB := n1_
          have BK255 := n2_
          have GW255 := n3_
          have GE255 := n4_
          have NB250_255 := n5_
          have NB255_250 := n6_
          clear n0_ n1_ n2_ n3_ n4_ n5_ n6_
          clear hb hbox hg
          refine hK.out _ _ ⟨((HB.out.cell (World.block_lt_of_cell? w _ hw251_0)).trans hw251_0), ((HB.out.cell (World.block_lt_of_cell? w _ hw252_0)).trans hw252_0), ((HB.out.cell (World.block_lt_of_cell? w _ hw253_0)).trans hw253_0), ((HB.out.cell (World.block_lt_of_cell? w _ hw254_0)).trans hw254_0)⟩ (fun hHeld => ?_)
          clear hK K
          refine norm_ (a' := ?_) ?_ ?_
          rotate_left
          ·show Act.put _ (some 3) _ = _
           simp only [Act.put, sA, sZ, sS, i64_w, i32_w]
           rfl
          refine one_ (i := 23) (N := none) #[T', T', T', T', T', T', T', T', T', T', T', T', T', T', T', T', T', T', T', T', T', T', T', T'] rfl rfl (one_of HT_.out (by kernel_rfl)) (by decide) (fun K hK => ?_)
          have hs83 : w82.cell? ⟨gb255, 0, none⟩ = some (.int .i64 0) := (blk_cell BK255.out 0).trans rfl
          have hfs83 := blk_frozen BK255.out 0
          have hns83_0 := NB250_255.out
          have hms83_0 := NB255_250.out
          have hs84 : w82.cell? ⟨gb255, 1, none⟩ = some (.int .i64 0) := (blk_cell BK255.out 1).trans rfl
          have hfs84 := blk_frozen BK255.out 1
          have hns84_0 := NB250_255.out
          have hms84_0 := NB255_250.out
          have hs85 : w82.cell? ⟨gb255, 2, none⟩ = some (.bool false) := (blk_cell BK255.out 2).trans rfl
          have hfs85 := blk_frozen BK255.out 2
          have hns85_0 := NB250_255.out
          have hms85_0 := NB255_250.out
          have hs86 : w82.cell? ⟨gb255, 3, none⟩ = some (.int .i64 0) := (blk_cell BK255.out 3).trans rfl
          have hfs86 := blk_frozen BK255.out 3
          have hns86_0 := NB250_255.out
          have hms86_0 := NB255_250.out
          have hs87 : w82.cell? ⟨gb255, 4, none⟩ = some (.slice none 0 0) := (blk_cell BK255.out 4).trans rfl
          have hfs87 := blk_frozen BK255.out 4
          have hns87_0 := NB250_255.out
          have hms87_0 := NB255_250.out
          refine skip_ (w1 := ?_) (by rfl) rfl ?_ ?_
          rotate_left
          ·go_simp
           rfl
          refine hK.out _ _ ⟨((xF (p := ⟨gb255, _, none⟩) (by first | exact nE38 hw251_0 GW255.out | exact nF38 hw251_0 GW255.out | (rw [xB]; exact nE38 hw251_0 GW255.out) | (rw [xB]; exact nF38 hw251_0 GW255.out)) _).trans (((xF (p := ⟨gb255, _, none⟩) (by first | exact nE38 hw251_0 GW255.out | exact nF38 hw251_0 GW255.out | (rw [xB]; exact nE38 hw251_0 GW255.out) | (rw [xB]; exact nF38 hw251_0 GW255.out)) _).trans (((xF (p := ⟨gb255, _, none⟩) (by first | exact nE38 hw251_0 GW255.out | exact nF38 hw251_0 GW255.out | (rw [xB]; exact nE38 hw251_0 GW255.out) | (rw [xB]; exact nF38 hw251_0 GW255.out)) _).trans (((xF (p := ⟨gb255, _, none⟩) (by first | exact nE38 hw251_0 GW255.out | exact nF38 hw251_0 GW255.out | (rw [xB]; exact nE38 hw251_0 GW255.out) | (rw [xB]; exact nF38 hw251_0 GW255.out)) _).trans (((xF (p := ⟨gb255, _, none⟩) (by first | exact nE38 hw251_0 GW255.out | exact nF38 hw251_0 GW255.out | (rw [xB]; exact nE38 hw251_0 GW255.out) | (rw [xB]; exact nF38 hw251_0 GW255.out)) _).trans (hHeld.1)))))))))), ((xF (p := ⟨gb255, _, none⟩) (by first | exact nE38 hw252_0 GW255.out | exact nF38 hw252_0 GW255.out | (rw [xB]; exact nE38 hw252_0 GW255.out) | (rw [xB]; exact nF38 hw252_0 GW255.out)) _).trans (((xF (p := ⟨gb255, _, none⟩) (by first | exact nE38 hw252_0 GW255.out | exact nF38 hw252_0 GW255.out | (rw [xB]; exact nE38 hw252_0 GW255.out) | (rw [xB]; exact nF38 hw252_0 GW255.out)) _).trans (((xF (p := ⟨gb255, _, none⟩) (by first | exact nE38 hw252_0 GW255.out | exact nF38 hw252_0 GW255.out | (rw [xB]; exact nE38 hw252_0 GW255.out) | (rw [xB]; exact nF38 hw252_0 GW255.out)) _).trans (((xF (p := ⟨gb255, _, none⟩) (by first | exact nE38 hw252_0 GW255.out | exact nF38 hw252_0 GW255.out | (rw [xB]; exact nE38 hw252_0 GW255.out) | (rw [xB]; exact nF38 hw252_0 GW255.out)) _).trans (((xF (p := ⟨gb255, _, none⟩) (by first | exact nE38 hw252_0 GW255.out | exact nF38 hw252_0 GW255.out | (rw [xB]; exact nE38 hw252_0 GW255.out) | (rw [xB]; exact nF38 hw252_0 GW255.out)) _).trans (hHeld.2.1)))))))))), ((xF (p := ⟨gb255, _, none⟩) (by first | exact nE38 hw253_0 GW255.out | exact nF38 hw253_0 GW255.out | (rw [xB]; exact nE38 hw253_0 GW255.out) | (rw [xB]; exact nF38 hw253_0 GW255.out)) _).trans (((xF (p := ⟨gb255, _, none⟩) (by first | exact nE38 hw253_0 GW255.out | exact nF38 hw253_0 GW255.out | (rw [xB]; exact nE38 hw253_0 GW255.out) | (rw [xB]; exact nF38 hw253_0 GW255.out)) _).trans (((xF (p := ⟨gb255, _, none⟩) (by first | exact nE38 hw253_0 GW255.out | exact nF38 hw253_0 GW255.out | (rw [xB]; exact nE38 hw253_0 GW255.out) | (rw [xB]; exact nF38 hw253_0 GW255.out)) _).trans (((xF (p := ⟨gb255, _, none⟩) (by first | exact nE38 hw253_0 GW255.out | exact nF38 hw253_0 GW255.out | (rw [xB]; exact nE38 hw253_0 GW255.out) | (rw [xB]; exact nF38 hw253_0 GW255.out)) _).trans (((xF (p := ⟨gb255, _, none⟩) (by first | exact nE38 hw253_0 GW255.out | exact nF38 hw253_0 GW255.out | (rw [xB]; exact nE38 hw253_0 GW255.out) | (rw [xB]; exact nF38 hw253_0 GW255.out)) _).trans (hHeld.2.2.1)))))))))), ((xF (p := ⟨gb255, _, none⟩) (by first | exact nE38 hw254_0 GW255.out | exact nF38 hw254_0 GW255.out | (rw [xB]; exact nE38 hw254_0 GW255.out) | (rw [xB]; exact nF38 hw254_0 GW255.out)) _).trans (((xF (p := ⟨gb255, _, none⟩) (by first | exact nE38 hw254_0 GW255.out | exact nF38 hw254_0 GW255.out | (rw [xB]; exact nE38 hw254_0 GW255.out) | (rw [xB]; exact nF38 hw254_0 GW255.out)) _).trans (((xF (p := ⟨gb255, _, none⟩) (by first | exact nE38 hw254_0 GW255.out | exact nF38 hw254_0 GW255.out | (rw [xB]; exact nE38 hw254_0 GW255.out) | (rw [xB]; exact nF38 hw254_0 GW255.out)) _).trans (((xF (p := ⟨gb255, _, none⟩) (by first | exact nE38 hw254_0 GW255.out | exact nF38 hw254_0 GW255.out | (rw [xB]; exact nE38 hw254_0 GW255.out) | (rw [xB]; exact nF38 hw254_0 GW255.out)) _).trans (((xF (p := ⟨gb255, _, none⟩) (by first | exact nE38 hw254_0 GW255.out | exact nF38 hw254_0 GW255.out | (rw [xB]; exact nE38 hw254_0 GW255.out) | (rw [xB]; exact nF38 hw254_0 GW255.out)) _).trans (hHeld.2.2.2))))))))))⟩ (fun hHeld => ?_)
          clear hK K
          refine done_ (done_of HT_.out (by kernel_rfl)) ?_
          have p256 : 0 ≤ (3 : Int) := (by omega)
          have q256 : 3 < (l0.length : Int) := of_decide_eq_true (by first | (with_reducible assumption) | assumption)
          obtain ⟨ad256, e256, hx256_0⟩ := Kd.at_int HR0.out 3 p256 q256
          obtain rfl : ad251 = ad256 := (by injection e256)
          (try simp only [show (3 : Int).toNat = 3 from rfl, Nat.reduceMul, Nat.reduceEqDiff, Go.Addr.add, ↓reduceIte] at hx256_0)
          have qi256 : (3 < l0.length) = True := eq_true (by omega)
          (try rw [show ((3 : Int)).toNat = 3 from rfl] at hx256_0)
          have hn256_0 : ad251.block ≠ gb255 := Nat.ne_of_lt (Nat.lt_of_lt_of_le (by have := World.block_lt_of_cell? _ _ hx256_0; first | rwa [xB] at this | exact this) GW255.out)
          have hn256_1 : ad251.block ≠ gb255 := Nat.ne_of_lt (Nat.lt_of_lt_of_le (by have := World.block_lt_of_cell? _ _ hx256_0; first | rwa [xB] at this | exact this) GW255.out)
          have hn256_2 : ad251.block ≠ gb255 := Nat.ne_of_lt (Nat.lt_of_lt_of_le (by have := World.block_lt_of_cell? _ _ hx256_0; first | rwa [xB] at this | exact this) GW255.out)
          have hn256_3 : ad251.block ≠ gb255 := Nat.ne_of_lt (Nat.lt_of_lt_of_le (by have := World.block_lt_of_cell? _ _ hx256_0; first | rwa [xB] at this | exact this) GW255.out)
          have hn256_4 : ad251.block ≠ gb255 := Nat.ne_of_lt (Nat.lt_of_lt_of_le (by have := World.block_lt_of_cell? _ _ hx256_0; first | rwa [xB] at this | exact this) GW255.out)
          replace hx256_0 := (HB.out.cell (World.block_lt_of_cell? w _ hx256_0)).trans hx256_0
          replace hx256_0 := (xF (p := ⟨gb255, 0, none⟩) (by first | (rw [xB]; exact hn256_0) | (show (Addr.add _ _).block ≠ _; rw [xB]; exact hn256_0) | exact hn256_0) (.int .i64 (Go.bits .or .i64 (wrap64 ((wrap64 (Go.bits .and .u8 (rd l0 1) 31)) * 256)) (wrap64 (rd l0 2))))).trans hx256_0
          replace hx256_0 := (xF (p := ⟨gb255, 1, none⟩) (by first | (rw [xB]; exact hn256_1) | (show (Addr.add _ _).block ≠ _; rw [xB]; exact hn256_1) | exact hn256_1) (.int .i64 (wrap64 (Go.bits .and .u8 (rd l0 3) 15)))).trans hx256_0
          replace hx256_0 := (xF (p := ⟨gb255, 2, none⟩) (by first | (rw [xB]; exact hn256_2) | (show (Addr.add _ _).block ≠ _; rw [xB]; exact hn256_2) | exact hn256_2) (.bool ((Go.bits .and .u8 (rd l0 1) 64) != 0))).trans hx256_0
          replace hx256_0 := (xF (p := ⟨gb255, 3, none⟩) (by first | (rw [xB]; exact hn256_3) | (show (Addr.add _ _).block ≠ _; rw [xB]; exact hn256_3) | exact hn256_3) (.int .i64 (-1))).trans hx256_0
          replace hx256_0 := (xF (p := ⟨gb255, 4, none⟩) (by first | (rw [xB]; exact hn256_4) | (show (Addr.add _ _).block ≠ _; rw [xB]; exact hn256_4) | exact hn256_4) (.slice none 0 0)).trans hx256_0
          clear hn256_0
          clear hn256_1
          clear hn256_2
          clear hn256_3
          clear hn256_4
          replace p256 := eq_true p256
          replace q256 := eq_true q256
          have p261 : 0 ≤ (4 : Int) := (by omega)
          have q261 : 4 < (l0.length : Int) := of_decide_eq_true (by first | (with_reducible assumption) | assumption)
          obtain ⟨ad261, e261, hx261_0⟩ := Kd.at_int HR0.out 4 p261 q261
          obtain rfl : ad251 = ad261 := (by injection e261)
          (try simp only [show (4 : Int).toNat = 4 from rfl, Nat.reduceMul, Nat.reduceEqDiff, Go.Addr.add, ↓reduceIte] at hx261_0)
          have qi261 : (4 < l0.length) = True := eq_true (by omega)
          (try rw [show ((4 : Int)).toNat = 4 from rfl] at hx261_0)
          have hn261_0 : ad251.block ≠ gb255 := Nat.ne_of_lt (Nat.lt_of_lt_of_le (by have := World.block_lt_of_cell? _ _ hx261_0; first | rwa [xB] at this | exact this) GW255.out)
          have hn261_1 : ad251.block ≠ gb255 := Nat.ne_of_lt (Nat.lt_of_lt_of_le (by have := World.block_lt_of_cell? _ _ hx261_0; first | rwa [xB] at this | exact this) GW255.out)
          have hn261_2 : ad251.block ≠ gb255 := Nat.ne_of_lt (Nat.lt_of_lt_of_le (by have := World.block_lt_of_cell? _ _ hx261_0; first | rwa [xB] at this | exact this) GW255.out)
          have hn261_3 : ad251.block ≠ gb255 := Nat.ne_of_lt (Nat.lt_of_lt_of_le (by have := World.block_lt_of_cell? _ _ hx261_0; first | rwa [xB] at this | exact this) GW255.out)
          have hn261_4 : ad251.block ≠ gb255 := Nat.ne_of_lt (Nat.lt_of_lt_of_le (by have := World.block_lt_of_cell? _ _ hx261_0; first | rwa [xB] at this | exact this) GW255.out)
          replace hx261_0 := (HB.out.cell (World.block_lt_of_cell? w _ hx261_0)).trans hx261_0
          replace hx261_0 := (xF (p := ⟨gb255, 0, none⟩) (by first | (rw [xB]; exact hn261_0) | (show (Addr.add _ _).block ≠ _; rw [xB]; exact hn261_0) | exact hn261_0) (.int .i64 (Go.bits .or .i64 (wrap64 ((wrap64 (Go.bits .and .u8 (rd l0 1) 31)) * 256)) (wrap64 (rd l0 2))))).trans hx261_0
          replace hx261_0 := (xF (p := ⟨gb255, 1, none⟩) (by first | (rw [xB]; exact hn261_1) | (show (Addr.add _ _).block ≠ _; rw [xB]; exact hn261_1) | exact hn261_1) (.int .i64 (wrap64 (Go.bits .and .u8 (rd l0 3) 15)))).trans hx261_0
          replace hx261_0 := (xF (p := ⟨gb255, 2, none⟩) (by first | (rw [xB]; exact hn261_2) | (show (Addr.add _ _).block ≠ _; rw [xB]; exact hn261_2) | exact hn261_2) (.bool ((Go.bits .and .u8 (rd l0 1) 64) != 0))).trans hx261_0
          replace hx261_0 := (xF (p := ⟨gb255, 3, none⟩) (by first | (rw [xB]; exact hn261_3) | (show (Addr.add _ _).block ≠ _; rw [xB]; exact hn261_3) | exact hn261_3) (.int .i64 (-1))).trans hx261_0
          replace hx261_0 := (xF (p := ⟨gb255, 4, none⟩) (by first | (rw [xB]; exact hn261_4) | (show (Addr.add _ _).block ≠ _; rw [xB]; exact hn261_4) | exact hn261_4) (.slice none 0 0)).trans hx261_0
          clear hn261_0
          clear hn261_1
          clear hn261_2
          clear hn261_3
          clear hn261_4
          replace p261 := eq_true p261
          replace q261 := eq_true q261
          obtain ⟨i088, hi088, _, hsz88, _⟩ := info_parts info5
          obtain ⟨A88, hcut88, hA88, hC88⟩ := print_mid_of (P := Try.prog) (Value.int .u8) 0 22 5 .i64 .i64 Try.underlying22 hi088 hsz88 (some ad251) c0 l0 (ji75) 188 (of_decide_eq_true (by first | (with_reducible assumption) | assumption)) (by first | omega | exact of_decide_eq_true (by first | (with_reducible assumption) | assumption)) (of_decide_eq_true (by first | (with_reducible assumption) | assumption)) HC0.out
          have HR278 := Aside0.mk (Kd.C_of_reads (h1 := fun _ => rfl) (hA88 _ (Kd.reads_of_C HR0.out)))
          have HC278 := Aside0.mk hC88
          clear hA88 hC88 hi088 hsz88
          try go_wp2_with (first | ((with_reducible refine xC (f := 42) rfl ?_); refine goesL_ (some 96) rfl rfl Try.func42 (by kernel_rfl) rfl #[.slice A88 ((l0.take 188).drop ((ji75) : Int).toNat).length (c0 - (ji75).toNat)] rfl (by (try simp only [List.map_toArray, List.map_cons, List.map_nil]); first | done | (rw [show ((l0.take 188).drop ((ji75) : Int).toNat).length = (188 - (ji75).toNat) from (by rw [List.length_drop, List.length_take]; have h_ : (188 : Int) ≤ (l0.length : Int) := of_decide_eq_true (by first | (with_reducible assumption) | assumption); omega)] <;> rfl) | (simp only [hji75]; rfl) | rfl | (simp only [List.length_drop, List.length_take]; rfl)) ?_; (with_reducible refine (slices_Clone_byte_byte.calls _ _ ((l0.take 188).drop ((ji75) : Int).toNat) t279 _ ?side1 ?side2 A79.out).mono ?_); (case side1 => exact Kd.C_below HR278.out (by repeat (first | (with_reducible first | exact HB.out | apply zA | apply zN | apply zD | refine zP ?_ GE250.out | refine zP ?_ GE255.out) | exact HB.out))); (case side2 => exact HC278.out); rintro e w89 ⟨v280, rfl, ho0, hb⟩; refine ⟨_, rfl, ?_⟩; have n0_ := Aside0.mk (Kd.R_lower ho0 (zS (by repeat (first | (with_reducible first | exact HB.out | apply zA | apply zN | apply zD | refine zP ?_ GE250.out | refine zP ?_ GE255.out) | exact HB.out)))); have n1_ := Aside0.mk (yB (g := gb250) (o := .cells #[.int .i64 0, .int .i64 0, .bool false, .int .i64 0, .slice none 0 0] 28 (0, 0)) (by (with_reducible repeat (first | refine yN ?_ _ | refine yD ?_ | refine yA ?_ _)); refine blk_far ?_ NB250_255.out _; (with_reducible repeat (first | refine yN ?_ _ | refine yD ?_ | refine yA ?_ _)); refine blk_far ?_ NB250_255.out _; (with_reducible repeat (first | refine yN ?_ _ | refine yD ?_ | refine yA ?_ _)); refine blk_far ?_ NB250_255.out _; (with_reducible repeat (first | refine yN ?_ _ | refine yD ?_ | refine yA ?_ _)); refine blk_far ?_ NB250_255.out _; (with_reducible repeat (first | refine yN ?_ _ | refine yD ?_ | refine yA ?_ _)); refine blk_far ?_ NB250_255.out _; (with_reducible repeat (first | refine yN ?_ _ | refine yD ?_ | refine yA ?_ _)); exact BK250.out) hb); have n2_ := Aside0.mk (yB (g := gb255) (o := .cells #[.int .i64 (Go.bits .or .i64 (wrap64 ((wrap64 (Go.bits .and .u8 (rd l0 1) 31)) * 256)) (wrap64 (rd l0 2))), .int .i64 (wrap64 (Go.bits .and .u8 (rd l0 3) 15)), .bool ((Go.bits .and .u8 (rd l0 1) 64) != 0), .int .i64 (-1), .slice none 0 0] 28 (0, 0)) (by (with_reducible repeat (first | refine yN ?_ _ | refine yD ?_ | refine yA ?_ _)); refine blk_put (cs := #[.int .i64 (Go.bits .or .i64 (wrap64 ((wrap64 (Go.bits .and .u8 (rd l0 1) 31)) * 256)) (wrap64 (rd l0 2))), .int .i64 (wrap64 (Go.bits .and .u8 (rd l0 3) 15)), .bool ((Go.bits .and .u8 (rd l0 1) 64) != 0), .int .i64 (-1), .slice none 0 0]) ?_ 4 _ rfl; (with_reducible repeat (first | refine yN ?_ _ | refine yD ?_ | refine yA ?_ _)); refine blk_put (cs := #[.int .i64 (Go.bits .or .i64 (wrap64 ((wrap64 (Go.bits .and .u8 (rd l0 1) 31)) * 256)) (wrap64 (rd l0 2))), .int .i64 (wrap64 (Go.bits .and .u8 (rd l0 3) 15)), .bool ((Go.bits .and .u8 (rd l0 1) 64) != 0), .int .i64 0, .slice none 0 0]) ?_ 3 _ rfl; (with_reducible repeat (first | refine yN ?_ _ | refine yD ?_ | refine yA ?_ _)); refine blk_put (cs := #[.int .i64 (Go.bits .or .i64 (wrap64 ((wrap64 (Go.bits .and .u8 (rd l0 1) 31)) * 256)) (wrap64 (rd l0 2))), .int .i64 (wrap64 (Go.bits .and .u8 (rd l0 3) 15)), .bool false, .int .i64 0, .slice none 0 0]) ?_ 2 _ rfl; (with_reducible repeat (first | refine yN ?_ _ | refine yD ?_ | refine yA ?_ _)); refine blk_put (cs := #[.int .i64 (Go.bits .or .i64 (wrap64 ((wrap64 (Go.bits .and .u8 (rd l0 1) 31)) * 256)) (wrap64 (rd l0 2))), .int .i64 0, .bool false, .int .i64 0, .slice none 0 0]) ?_ 1 _ rfl; (with_reducible repeat (first | refine yN ?_ _ | refine yD ?_ | refine yA ?_ _)); refine blk_put (cs := #[.int .i64 0, .int .i64 0, .bool false, .int .i64 0, .slice none 0 0]) ?_ 0 _ rfl; (with_reducible repeat (first | refine yN ?_ _ | refine yD ?_ | refine yA ?_ _)); exact BK255.out) hb); have n3_ := Aside0.mk (zT (by repeat (first | (with_reducible first | exact HB.out | apply zA | apply zN | apply zD | refine zP ?_ GE250.out | refine zP ?_ GE255.out) | exact HB.out)) hb); clear BK250; clear BK255; clear HB; have HO281 := n0_; have BK250 := n1_; have BK255 := n2_; have HB := n3_; clear n0_ n1_ n2_ n3_; (try clear hb); (try clear hb2); (try clear hk); (try clear hi); (try clear ho0); obtain ⟨Ao90, co90, eo90⟩ := Kd.R_slice HO281.out; subst eo90; have hnb91 := NB255_250.out; have hnc91 := NB250_255.out; have hcz92_0 : w89.cell? ⟨gb255, 0, none⟩ = some (.int .i64 (Go.bits .or .i64 (wrap64 ((wrap64 (Go.bits .and .u8 (rd l0 1) 31)) * 256)) (wrap64 (rd l0 2)))) := (blk_cell BK255.out 0).trans rfl; have hcz92_1 : w89.cell? ⟨gb255, 1, none⟩ = some (.int .i64 (wrap64 (Go.bits .and .u8 (rd l0 3) 15))) := (blk_cell BK255.out 1).trans rfl; have hcz92_2 : w89.cell? ⟨gb255, 2, none⟩ = some (.bool ((Go.bits .and .u8 (rd l0 1) 64) != 0)) := (blk_cell BK255.out 2).trans rfl; have hcz92_3 : w89.cell? ⟨gb255, 3, none⟩ = some (.int .i64 (-1)) := (blk_cell BK255.out 3).trans rfl; have hcz92_4 : w89.cell? ⟨gb255, 4, none⟩ = some (.slice none 0 0) := (blk_cell BK255.out 4).trans rfl; have hfz92_0 := blk_frozen BK255.out 0; have hfz92_1 := blk_frozen BK255.out 1; have hfz92_2 := blk_frozen BK255.out 2; have hfz92_3 := blk_frozen BK255.out 3; have hfz92_4 := blk_frozen BK255.out 4; have hcz93_0 : w89.cell? ⟨gb250, 0, none⟩ = some (.int .i64 0) := (blk_cell BK250.out 0).trans rfl; have hcz93_1 : w89.cell? ⟨gb250, 1, none⟩ = some (.int .i64 0) := (blk_cell BK250.out 1).trans rfl; have hcz93_2 : w89.cell? ⟨gb250, 2, none⟩ = some (.bool false) := (blk_cell BK250.out 2).trans rfl; have hcz93_3 : w89.cell? ⟨gb250, 3, none⟩ = some (.int .i64 0) := (blk_cell BK250.out 3).trans rfl; have hcz93_4 : w89.cell? ⟨gb250, 4, none⟩ = some (.slice none 0 0) := (blk_cell BK250.out 4).trans rfl; have hfz93_0 := blk_frozen BK250.out 0; have hfz93_1 := blk_frozen BK250.out 1; have hfz93_2 := blk_frozen BK250.out 2; have hfz93_3 := blk_frozen BK250.out 3; have hfz93_4 := blk_frozen BK250.out 4))
          refine bodyPost_ret (results_cell_row rfl _ _ gb250 28 #[.int .i64 (Go.bits .or .i64 (wrap64 ((wrap64 (Go.bits .and .u8 (rd l0 1) 31)) * 256)) (wrap64 (rd l0 2))), .int .i64 (wrap64 (Go.bits .and .u8 (rd l0 3) 15)), .bool ((Go.bits .and .u8 (rd l0 1) 64) != 0), .int .i64 (-1), .slice Ao90 t279.length co90] (0, 0) _ rfl (by (with_reducible repeat (first | refine yN ?_ _ | refine yD ?_ | refine yA ?_ _)); refine blk_put (cs := #[.int .i64 (Go.bits .or .i64 (wrap64 ((wrap64 (Go.bits .and .u8 (rd l0 1) 31)) * 256)) (wrap64 (rd l0 2))), .int .i64 (wrap64 (Go.bits .and .u8 (rd l0 3) 15)), .bool ((Go.bits .and .u8 (rd l0 1) 64) != 0), .int .i64 (-1), .slice none 0 0]) ?_ 4 _ rfl; (with_reducible repeat (first | refine yN ?_ _ | refine yD ?_ | refine yA ?_ _)); refine blk_put (cs := #[.int .i64 (Go.bits .or .i64 (wrap64 ((wrap64 (Go.bits .and .u8 (rd l0 1) 31)) * 256)) (wrap64 (rd l0 2))), .int .i64 (wrap64 (Go.bits .and .u8 (rd l0 3) 15)), .bool ((Go.bits .and .u8 (rd l0 1) 64) != 0), .int .i64 0, .slice none 0 0]) ?_ 3 _ rfl; (with_reducible repeat (first | refine yN ?_ _ | refine yD ?_ | refine yA ?_ _)); refine blk_put (cs := #[.int .i64 (Go.bits .or .i64 (wrap64 ((wrap64 (Go.bits .and .u8 (rd l0 1) 31)) * 256)) (wrap64 (rd l0 2))), .int .i64 (wrap64 (Go.bits .and .u8 (rd l0 3) 15)), .bool false, .int .i64 0, .slice none 0 0]) ?_ 2 _ rfl; (with_reducible repeat (first | refine yN ?_ _ | refine yD ?_ | refine yA ?_ _)); refine blk_put (cs := #[.int .i64 (Go.bits .or .i64 (wrap64 ((wrap64 (Go.bits .and .u8 (rd l0 1) 31)) * 256)) (wrap64 (rd l0 2))), .int .i64 0, .bool false, .int .i64 0, .slice none 0 0]) ?_ 1 _ rfl; (with_reducible repeat (first | refine yN ?_ _ | refine yD ?_ | refine yA ?_ _)); refine blk_put (cs := #[.int .i64 0, .int .i64 0, .bool false, .int .i64 0, .slice none 0 0]) ?_ 0 _ rfl; (with_reducible repeat (first | refine yN ?_ _ | refine yD ?_ | refine yA ?_ _)); refine blk_far ?_ NB250_255.out _; (with_reducible repeat (first | refine yN ?_ _ | refine yD ?_ | refine yA ?_ _)); exact BK250.out) Try.underlying28 rfl (by kernel_rfl)) rfl ?_
          exact ⟨_, by first | rfl | (simp [errW_none, errW_some] <;> rfl) | (simp only [← hji75]; first | rfl | (simp [errW_none, errW_some] <;> rfl)) | (simp [*, errW_none, errW_some] <;> rfl), by (with_reducible repeat (first | apply Kd.R_alloc | apply Kd.R_drewN | apply Kd.R_drew)); exact Kd.R_mono (Kd.R_far (p := ⟨gb250, 4, none⟩) (Kd.R_far (p := ⟨gb250, 3, none⟩) (Kd.R_far (p := ⟨gb250, 2, none⟩) (Kd.R_far (p := ⟨gb250, 1, none⟩) (Kd.R_far (p := ⟨gb250, 0, none⟩) (Kd.R_far (p := ⟨gb255, 4, none⟩) (Kd.R_types (Kd.R_types HO281.out BK255.out (by decide)) BK250.out (by decide)) (fun _ hk => hk.1.2) (.slice Ao90 t279.length co90)) (fun _ hk => hk.2) (.int .i64 (Go.bits .or .i64 (wrap64 ((wrap64 (Go.bits .and .u8 (rd l0 1) 31)) * 256)) (wrap64 (rd l0 2))))) (fun _ hk => hk.2) (.int .i64 (wrap64 (Go.bits .and .u8 (rd l0 3) 15)))) (fun _ hk => hk.2) (.bool ((Go.bits .and .u8 (rd l0 1) 64) != 0))) (fun _ hk => hk.2) (.int .i64 (-1))) (fun _ hk => hk.2) (.slice Ao90 t279.length co90)) (fun _ hk => trivial), by repeat (first | (with_reducible first | exact HB.out | apply zA | apply zN | apply zD | refine zP ?_ GE250.out | refine zP ?_ GE255.out) | exact HB.out)⟩
         ·rw [if_neg c78] at H
          exact absurd H (by simp)
        ·rw [if_neg c77] at H
         exact absurd H (by simp)
       ·rw [if_neg c76] at H
        exact absurd H (by simp)
     ·rw [if_neg c23] at H
      exact absurd H (by simp)
   ·rw [if_neg c4] at H
    exact absurd H (by simp)
  ·rw [if_neg c3] at H
   exact absurd H (by simp)
 ·rw [if_neg c2] at H
  exact absurd H (by simp)

end Go.Proofs.Ytdndhbfagoghfaa.P
