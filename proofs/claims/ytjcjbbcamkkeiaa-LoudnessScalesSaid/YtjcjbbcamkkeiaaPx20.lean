-- Written by this session's own program (wip/tools/myprint.py), which runs the kit's print with turns of its own: not a text of the kit's print.sh.
import Derived.Test.YtjcjbbcamkkeiaaPx0
import Derived.Test.YtjcjbbcamkkeiaaPx15
import Derived.Test.YtjcjbbcamkkeiaaPx23
import Derived.Test.YtjcjbbcamkkeiaaPx26
namespace Go.Proofs.Ytjcjbbcamkkeiaa.P
open Go.RowKit Go.Proofs.YtjcjbbcamkkeiaaW.PrintWords Go.Proofs.YtjcjbbcamkkeiaaW.PrintLast Go.Proofs.YtjcjbbcamkkeiaaW.PrintMore
attribute [local go_sem] max2_int min2_int max_two min_two max_three min_three max_four min_four   -- for this text's walks alone
set_option linter.unusedVariables false
set_option linter.unusedSimpArgs false

/-! ### cutroomlaw28_awake: function 19 (by hand) -/
def cutroomlaw28_awake.f (k : Nat) : Option Bool :=
  (loudness_Powers.f k [List.replicate 480 100]).bind fun p => (loudness_Measure.f k [List.replicate 480 100]).bind fun m => (loudness_Gain.f k [List.replicate 480 100] 2500 32767).bind fun g => (loudness_Gain.f k [List.replicate 480 0] 1 1).bind fun s =>
    if p = ([4800000], 0) ∧ m = (10000, 1, 0) ∧ g = (2048, 0) ∧ s = (65536, 0) then some true else none
theorem cutroomlaw28_awake.mono : ∀ k, LeO (cutroomlaw28_awake.f k) (cutroomlaw28_awake.f (k + 1)) := by
  intro k
  unfold cutroomlaw28_awake.f
  refine LeO.bind (loudness_Powers.mono _ _) (fun p => ?_)
  refine LeO.bind (loudness_Measure.mono _ _) (fun m => ?_)
  refine LeO.bind (loudness_Gain.mono _ _ _ _) (fun g => ?_)
  refine LeO.bind (loudness_Gain.mono _ _ _ _) (fun s => ?_)
  exact LeO.refl _
/-- the sound: its first i samples are written -/
def cutroomlaw28_awake.Inv (w wr : World) (i : Nat) : Prop := ∃ cur : List Value, wr.heap[w.heap.size]? = some (.cells cur.toArray 48 (0, 0)) ∧ cur.length = 480 ∧ cur.take i = List.replicate i (.int .i16 100) ∧ Below w.heap.size w wr
theorem cutroomlaw28_awake.cells (v : Value) (n : Nat) : (madeCells #[v] n).toList = List.replicate n v := by
  refine List.eq_replicate_iff.2 ⟨by simp [madeCells], fun b hb => ?_⟩
  simp only [madeCells, Array.toList_map, List.mem_map] at hb
  obtain ⟨i, _, rfl⟩ := hb
  have e : i % (#[v] : Array Value).size = 0 := Nat.mod_one i
  rw [e]
  rfl
theorem cutroomlaw28_awake.made (W : World) : ∃ Z : Array Value, Z.toList = List.replicate 480 (.int .i16 0) ∧ ∀ W : World, (Instr.makeSlice 47 (.int .i64 480) (.int .i64 480)).run Try.prog W = .ok (.slice (some ⟨W.heap.size, 0, none⟩) 480 480) (W.alloc (.cells Z 48)) := by
  obtain ⟨i0, hi, hz0, hz1, hz2⟩ := info_parts info48
  refine ⟨madeCells (Value.int .i16 0).cells (480 * i0.size), ?_, fun W => ?_⟩
  · rw [hz1]
    exact cutroomlaw28_awake.cells (.int .i16 0) (480 * 1)
  · exact run_make (P := Try.prog) W 47 48 i0 (.int .i16 0) Try.underlying47 hi hz0 .i64 .i64 480 480 (by decide) (by decide) (by rw [hz2]; decide) (by decide)
theorem cutroomlaw28_awake.row {W : World} {G : Nat} {cs : Array Value} {n : Nat} {x : Int} (hg : W.heap[G]? = some (.cells cs 48 (0, 0))) (hc : cs.toList = List.replicate n (.int .i16 x)) (hn : n ≤ 480) : Kd.C (Kd.int .i16) W (some ⟨G, 0, none⟩) (List.replicate n x).length (List.replicate n x) := by
  refine Kd.C_of_reads (d := 0) ?_
  refine ⟨rfl, by simp only [maxLen, List.length_replicate]; omega, fun _ => ⟨_, rfl, fun j hj => ?_⟩⟩
  rw [List.length_replicate] at hj
  rw [add_plain, blk_cell hg]
  have := congrArg (fun z => z[j]?) hc
  simp only [Array.getElem?_toList, List.getElem?_replicate, hj, if_true] at this
  rw [this]
  simp [List.getD, hj]
/-- what stands, whatever is made behind it -/
theorem cutroomlaw28_awake.keep {w W W1 : World} {A : Option Addr} {n : Nat} {xs : List Int} (h : Kd.C (Kd.int .i16) W A n xs ∧ Below w.heap.size w W) (hb : Below W.heap.size W W1) : Kd.C (Kd.int .i16) W1 A n xs ∧ Below w.heap.size w W1 := ⟨Kd.C_below h.1 hb, below_step h.2 hb⟩
theorem cutroomlaw28_awake.more {W : World} (o : Obj) : Below W.heap.size W (W.alloc o) := below_alloc (Below.refl _ _) o
theorem cutroomlaw28_awake.cell {W W1 : World} {a : Addr} {v : Value} (h : W.cell? a = some v) (hb : Below W.heap.size W W1) : W1.cell? a = some v := (hb.cell (World.block_lt_of_cell? _ _ h)).trans h
theorem cutroomlaw28_awake.lit {W : World} {xs : List Int} {A : Option Addr} {n c : Nat} (hn : xs.length = n) (hc : n ≤ c) (h : Kd.C (Kd.int .i16) W A xs.length xs) : Kd.C (Kd.slice 48 (Kd.int .i16)) (W.alloc (.cells #[.slice A n c] 47)) (some ⟨W.heap.size, 0, none⟩) [xs].length [xs] := by
  subst hn
  have hB : Below W.heap.size W (W.alloc (.cells #[.slice A xs.length c] 47)) := below_alloc (Below.refl _ _) _
  refine ⟨rfl, by simp, fun _ => ⟨_, rfl, fun j p hj => ?_⟩⟩
  cases j with
  | zero =>
    obtain rfl : xs = p := by simpa using hj
    refine ⟨[.slice A xs.length c], rfl, ⟨A, c, rfl, hc, Kd.C_below h hB⟩, fun i u hu => ?_⟩
    cases i with
    | zero =>
      obtain rfl : Value.slice A xs.length c = u := by simpa using hu
      rw [add_plain]
      exact (blk_cell (heap_alloc_new W _) _).trans (by simp)
    | succ i => simp at hu
  | succ j => simp at hj
theorem cutroomlaw28_awake.litAt {W : World} {xs : List Int} {A : Option Addr} {n c G : Nat} (hG : W.heap.size = G) (hn : xs.length = n) (hc : n ≤ c) (h : Kd.C (Kd.int .i16) W A xs.length xs) : Kd.C (Kd.slice 48 (Kd.int .i16)) (W.alloc (.cells #[.slice A n c] 47)) (some ⟨G, 0, none⟩) [xs].length [xs] := by
  subst hG
  exact cutroomlaw28_awake.lit hn hc h
set_option maxHeartbeats 8000000 in
set_option maxRecDepth 100000 in
theorem cutroomlaw28_awake.calls (k : Nat) (r : Bool) (w : World) (h : cutroomlaw28_awake.f k = some r) :
    Calls Try.prog 19 #[] w fun e w' => e = .returned (.bool r) ∧ Below w.heap.size w w' := by
  unfold cutroomlaw28_awake.f at h
  obtain ⟨p, h1, h⟩ := Option.bind_eq_some_iff.mp h
  obtain ⟨m, h2, h⟩ := Option.bind_eq_some_iff.mp h
  obtain ⟨g, h3, h⟩ := Option.bind_eq_some_iff.mp h
  obtain ⟨s, h4, h⟩ := Option.bind_eq_some_iff.mp h
  by_cases c : p = ([4800000], 0) ∧ m = (10000, 1, 0) ∧ g = (2048, 0) ∧ s = (65536, 0)
  · rw [if_pos c] at h
    obtain rfl := Option.some.inj h
    obtain ⟨rfl, rfl, rfl, rfl⟩ := c
    clear h
    have H1 := Aside0.mk h1
    have H2 := Aside0.mk h2
    have H3 := Aside0.mk h3
    have H4 := Aside0.mk h4
    clear h1 h2 h3 h4
    obtain ⟨Z, hZ, hmk⟩ := cutroomlaw28_awake.made w
    have HZ := Aside0.mk hZ
    clear hZ
    go_enter Try.func19, Try.ntmps19
    go_wp2
    have hI0 : Aside0 (cutroomlaw28_awake.Inv w (w.alloc (.cells Z 48)) 0) := ⟨⟨Z.toList, by simpa using heap_alloc_new w _, by rw [HZ.out, List.length_replicate], rfl, below_alloc (Below.refl _ _) _⟩⟩
    go_loopg [14] 480 (fun kx s14 wr => ∃ i : Nat, s14 = .int .i64 i ∧ i ≤ 480 ∧ 480 - i ≤ kx ∧ Aside0 (cutroomlaw28_awake.Inv w wr i))
    case atStart => exact ⟨0, rfl, by decide, by decide, hI0⟩
    case round =>
      obtain ⟨i, rfl, hi, hkx, HI⟩ := hrel
      by_cases hlt : i < 480
      · obtain ⟨cur, hg, hlen, htk, hbel⟩ := HI.out
        have hlt' : decide ((i : Int) < 480) = true := decide_eq_true (by omega)
        obtain ⟨v0, hc⟩ : ∃ v0, wr.cell? ⟨w.heap.size, i, none⟩ = some v0 := ⟨_, by rw [blk_cell hg, List.getElem?_toArray, List.getElem?_eq_getElem (by omega)]⟩
        have hfz : wr.frozen? ⟨w.heap.size, i, none⟩ = false := blk_frozen hg i
        have HI2 : Aside0 (cutroomlaw28_awake.Inv w (wr.setCell ⟨w.heap.size, i, none⟩ (.int .i16 100)) (i + 1)) := ⟨⟨cur.set i (.int .i16 100), by simpa using blk_set hg i (.int .i16 100), by rw [List.length_set]; exact hlen, by
          rw [List.take_succ_eq_append_getElem (by rw [List.length_set]; omega), List.getElem_set_self, List.take_set_of_le (Nat.le_refl i), htk, List.replicate_succ'], below_set hbel (Nat.le_refl _)⟩⟩
        clear hg hlen htk hbel HI
        go_wp2
        go_roundg (480 - (i + 1))
        case measure => omega
        case rel => exact ⟨i + 1, by go_num, by omega, Nat.le_refl _, HI2⟩
      · obtain rfl : i = 480 := by omega
        have HX : Aside0 (Kd.C (Kd.int .i16) wr (some ⟨w.heap.size, 0, none⟩) (List.replicate 480 (100 : Int)).length (List.replicate 480 (100 : Int)) ∧ Below w.heap.size w wr) := ⟨by
          obtain ⟨cur, hg, hlen, htk, hbel⟩ := HI.out
          exact ⟨cutroomlaw28_awake.row hg (by rw [List.take_of_length_le (by omega)] at htk; exact htk) (Nat.le_refl _), hbel⟩⟩
        clear HI
        have L0 := Aside0.mk (cutroomlaw28_awake.lit (c := 480) (List.length_replicate) (Nat.le_refl 480) HX.out.1)
        have hB1 : Aside0 (Below w.heap.size w (wr.alloc (.cells #[.slice (some ⟨w.heap.size, 0, none⟩) 480 480] 47))) := ⟨below_alloc HX.out.2 _⟩
        go_wp2_with (go_at_call 14; refine (loudness_Powers.calls k (some ⟨wr.heap.size, 0, none⟩) 1 [List.replicate 480 100] [4800000] 0 _ L0.out (by decide) H1.out).mono ?_; rintro e w2 ⟨v0, rfl, hv0, hb2⟩; have HV0 := Aside0.mk hv0; have HB2 := Aside0.mk hb2; clear hv0 hb2)
        obtain ⟨A, cp, rfl, hcp, hC⟩ := Kd.R_reads HV0.out
        obtain ⟨ad, rfl, p0⟩ := Kd.at_int hC 0 (by decide) (by decide)
        have p1 : w2.cell? ad = some (.int .i64 4800000) := by simpa [Addr.add, rd] using p0
        clear hC p0 HV0
        have HX2 := Aside0.mk (cutroomlaw28_awake.keep (cutroomlaw28_awake.keep HX.out (cutroomlaw28_awake.more _)) HB2.out)
        clear HX L0 hB1 HB2
        have L2 := Aside0.mk (cutroomlaw28_awake.lit (c := 480) (List.length_replicate) (Nat.le_refl 480) HX2.out.1)
        refine (loudness_Measure.calls k (some ⟨w2.heap.size, 0, none⟩) 1 [List.replicate 480 100] 10000 1 0 _ L2.out (by decide) H2.out).mono ?_
        rintro e w3 ⟨rfl, hb3⟩
        have HX3 := Aside0.mk (cutroomlaw28_awake.keep (cutroomlaw28_awake.keep (cutroomlaw28_awake.keep HX2.out (cutroomlaw28_awake.more _)) hb3) (cutroomlaw28_awake.more (.cells #[.int .i64 10000, .int .i64 1] 37)))
        have p2 := cutroomlaw28_awake.cell (cutroomlaw28_awake.cell p1 (cutroomlaw28_awake.more _)) hb3
        have p3 := cutroomlaw28_awake.cell p2 (cutroomlaw28_awake.more (.cells #[.int .i64 10000, .int .i64 1] 37))
        have q3 : (w3.alloc (.cells #[.int .i64 10000, .int .i64 1] 37)).cell? ⟨w3.heap.size, 0, none⟩ = some (.int .i64 10000) := by go_simp
        have s3 : (w3.alloc (.cells #[.int .i64 10000, .int .i64 1] 37)).cell? ⟨w3.heap.size, 1, none⟩ = some (.int .i64 1) := by go_simp
        clear HX2 L2 p1 p2 hb3
        have L3 := Aside0.mk (cutroomlaw28_awake.litAt (c := 480) (G := w3.heap.size + 1) (by simp) (List.length_replicate) (Nat.le_refl 480) HX3.out.1)
        go_wp2_with (go_at_call 25; refine (loudness_Gain.calls k (some ⟨w3.heap.size + 1, 0, none⟩) 1 [List.replicate 480 100] 2500 32767 2048 0 _ L3.out (by decide) H3.out).mono ?_; rintro e w4 ⟨rfl, hb4⟩; (have HX4 := Aside0.mk (cutroomlaw28_awake.keep (cutroomlaw28_awake.keep HX3.out (cutroomlaw28_awake.more _)) hb4)); (have p4 := cutroomlaw28_awake.cell (cutroomlaw28_awake.cell p3 (cutroomlaw28_awake.more _)) hb4); (have q4 := cutroomlaw28_awake.cell (cutroomlaw28_awake.cell q3 (cutroomlaw28_awake.more _)) hb4); (have s4 := cutroomlaw28_awake.cell (cutroomlaw28_awake.cell s3 (cutroomlaw28_awake.more _)) hb4); clear HX3 L3 p3 q3 s3 hb4)
        have Z4 : Aside0 (Kd.C (Kd.int .i16) (w4.alloc (.cells Z 48)) (some ⟨w4.heap.size, 0, none⟩) (List.replicate 480 (0 : Int)).length (List.replicate 480 (0 : Int))) := ⟨cutroomlaw28_awake.row (by simpa using heap_alloc_new w4 (.cells Z 48)) HZ.out (Nat.le_refl _)⟩
        have HX5 := Aside0.mk (cutroomlaw28_awake.keep HX4.out (cutroomlaw28_awake.more (.cells Z 48)))
        have p5 := cutroomlaw28_awake.cell p4 (cutroomlaw28_awake.more (.cells Z 48))
        have q5 := cutroomlaw28_awake.cell q4 (cutroomlaw28_awake.more (.cells Z 48))
        have s5 := cutroomlaw28_awake.cell s4 (cutroomlaw28_awake.more (.cells Z 48))
        have L5 := Aside0.mk (cutroomlaw28_awake.litAt (c := 480) (G := w4.heap.size + 1) (by simp) (List.length_replicate) (Nat.le_refl 480) Z4.out)
        clear HX4 p4 q4 s4 Z4
        refine (loudness_Gain.calls k (some ⟨w4.heap.size + 1, 0, none⟩) 1 [List.replicate 480 0] 1 1 65536 0 _ L5.out (by decide) H4.out).mono ?_
        rintro e w6 ⟨rfl, hb6⟩
        have HX6 := Aside0.mk (cutroomlaw28_awake.keep (cutroomlaw28_awake.keep HX5.out (cutroomlaw28_awake.more _)) hb6)
        have p6 := cutroomlaw28_awake.cell (cutroomlaw28_awake.cell p5 (cutroomlaw28_awake.more _)) hb6
        have q6 := cutroomlaw28_awake.cell (cutroomlaw28_awake.cell q5 (cutroomlaw28_awake.more _)) hb6
        have s6 := cutroomlaw28_awake.cell (cutroomlaw28_awake.cell s5 (cutroomlaw28_awake.more _)) hb6
        clear HX5 p5 q5 s5 L5 hb6
        have p7 : w6.cell? (ad.add 0) = some (.int .i64 4800000) := by simpa [Addr.add] using p6
        go_wp2
        go_ret
        exact ⟨rfl, HX6.out.2⟩
  · rw [if_neg c] at h
    cases h


end Go.Proofs.Ytjcjbbcamkkeiaa.P
