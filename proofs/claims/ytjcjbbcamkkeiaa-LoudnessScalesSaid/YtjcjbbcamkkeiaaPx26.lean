-- Written by this session's own program (wip/tools/myprint.py), which runs the kit's print with turns of its own: not a text of the kit's print.sh.
import Derived.Test.YtjcjbbcamkkeiaaPx0
import Derived.Test.YtjcjbbcamkkeiaaPx18
import Derived.Test.YtjcjbbcamkkeiaaPx23
import Derived.Test.YtjcjbbcamkkeiaaPx33
import Derived.Test.YtjcjbbcamkkeiaaPx40
import Derived.Test.YtjcjbbcamkkeiaaMul
import Derived.Deep.LoopGhost
import Derived.Deep.Draws
namespace Go.Proofs.Ytjcjbbcamkkeiaa.P
open Go.RowKit Go.Proofs.YtjcjbbcamkkeiaaW.PrintWords Go.Proofs.YtjcjbbcamkkeiaaW.PrintLast Go.Proofs.YtjcjbbcamkkeiaaW.PrintMore
attribute [local go_sem] max2_int min2_int max_two min_two max_three min_three max_four min_four   -- for this text's walks alone
set_option linter.unusedVariables false
set_option linter.unusedSimpArgs false

/-! ### loudness_Gain: function 25 (by hand) -/
-- IMPORT Derived.Test.YtjcjbbcamkkeiaaMul
-- IMPORT Derived.Deep.LoopGhost
-- IMPORT Derived.Deep.Draws
/-- whether the gain i + 1 exceeds a limit -/
def loudness_Gain.over (num den top target peak : Int) (i : Nat) : Bool := decide (target * 16777216 * den < ((i : Int) + 1) * ((i : Int) + 1) * num) || decide (peak * 4096 < ((i : Int) + 1) * top)
def loudness_Gain.f (k : Nat) (l0 : List (List Int)) (a1 a2 : Int) : Option (Int × Int) :=
  (loudness_proper.f k l0).bind fun p => if p = true then (if a1 < 0 then some (0, 1) else if 4294967296 < a1 then some (0, 1) else if a2 < 0 then some (0, 1) else if 32767 < a2 then some (0, 1) else
    (loudness_Measure.f k l0).bind fun m => (loudness_Peak.f k l0).bind fun t => if 0 ≤ m.1 ∧ m.1 ≤ 4611686018427387904 ∧ 1 ≤ m.2.1 ∧ m.2.1 ≤ 4611686018427387904 ∧ 0 ≤ t ∧ t ≤ 65536 then some ((((List.range 65536).countP (fun i => !loudness_Gain.over m.1 m.2.1 t a1 a2 i) : Nat) : Int), 0) else none) else some (0, 1)
theorem loudness_Gain.mono : ∀ a0 a1 a2 k, LeO (loudness_Gain.f k a0 a1 a2) (loudness_Gain.f (k + 1) a0 a1 a2) := by
  intro a0 a1 a2 k
  unfold loudness_Gain.f
  refine LeO.bind (loudness_proper.mono _ _) (fun p => ?_)
  refine LeO.ite ?_ (LeO.refl _)
  refine LeO.ite (LeO.refl _) ?_
  refine LeO.ite (LeO.refl _) ?_
  refine LeO.ite (LeO.refl _) ?_
  refine LeO.ite (LeO.refl _) ?_
  refine LeO.bind (loudness_Measure.mono _ _) (fun m => ?_)
  refine LeO.bind (loudness_Peak.mono _ _) (fun t => ?_)
  exact LeO.refl _
theorem loudness_Gain.at_most (a b c d : Int) (ha : 0 ≤ a) (ha' : a < 18446744073709551616) (hb : 0 ≤ b) (hb' : b < 18446744073709551616) (hc : 0 ≤ c) (hc' : c < 18446744073709551616) (hd : 0 ≤ d) (hd' : d < 18446744073709551616) : loudness_atMost.f a b c d = some (decide (a * b ≤ c * d)) := by
  unfold loudness_atMost.f
  rw [mul64 a b ha ha' hb hb', mul64 c d hc hc' hd hd']
  simp only [Option.bind_some]
  generalize a * b = x
  generalize c * d = y
  split <;> (try split) <;> first | (congr 1; simp; omega) | (simp; omega)
theorem loudness_Gain.mul_le (x y : Int) (n m : Int) (h0 : 0 ≤ x) (h1 : x ≤ n) (h2 : 0 ≤ y) (h3 : y ≤ m) : 0 ≤ x * y ∧ x * y ≤ n * m := ⟨Int.mul_nonneg h0 h2, Int.mul_le_mul h1 h3 h2 (Int.le_trans h0 h1)⟩
/-- what is captured -/
structure loudness_Gain.Caught (W : World) (b1 b2 b3 b4 : Nat) (num den top target peak : Int) : Prop where
  c0 : W.cell? ⟨b1, 0, none⟩ = some (.int .i64 num)
  c1 : W.cell? ⟨b1, 1, none⟩ = some (.int .i64 den)
  c2 : W.cell? ⟨b2, 0, none⟩ = some (.int .i64 target)
  c3 : W.cell? ⟨b3, 0, none⟩ = some (.int .i64 top)
  c4 : W.cell? ⟨b4, 0, none⟩ = some (.int .i64 peak)
set_option maxHeartbeats 4000000 in
set_option maxRecDepth 100000 in
theorem loudness_Gain.closure (num den top target peak : Int) (W : World) (b1 b2 b3 b4 : Nat) (i : Nat) (hi : i < 65536) (hn : 0 ≤ num ∧ num ≤ 4611686018427387904) (hd : 1 ≤ den ∧ den ≤ 4611686018427387904) (ht : 0 ≤ top ∧ top ≤ 65536) (hg : 0 ≤ target ∧ target ≤ 4294967296) (hp : 0 ≤ peak ∧ peak ≤ 32767)
    (hC : loudness_Gain.Caught W b1 b2 b3 b4 num den top target peak) :
    Calls Try.prog 38 #[.int .i64 (i : Int), .pointer (some ⟨b1, 0, none⟩), .pointer (some ⟨b2, 0, none⟩), .pointer (some ⟨b3, 0, none⟩), .pointer (some ⟨b4, 0, none⟩)] W fun e w' => e = .returned (.bool (loudness_Gain.over num den top target peak i)) ∧ ∃ q, w' = W.drewN q := by
  obtain ⟨c0, c1, c2, c3, c4⟩ := hC
  obtain ⟨hn0, hn1⟩ := hn
  obtain ⟨hd0, hd1⟩ := hd
  obtain ⟨ht0, ht1⟩ := ht
  obtain ⟨hg0, hg1⟩ := hg
  obtain ⟨hp0, hp1⟩ := hp
  obtain ⟨g, hgi⟩ : ∃ g : Int, g = (i : Int) + 1 := ⟨_, rfl⟩
  have g0 : 0 ≤ g := by omega
  have g1 : g ≤ 65536 := by omega
  have e1 : IntKind.i64.wrap ((i : Int) + 1) = g := by rw [IntKind.wrap_i64, hgi]; omega
  have e2 : IntKind.u64.wrap g = g := wu (by omega) (by omega)
  obtain ⟨gg, hgg⟩ : ∃ gg : Int, gg = g * g := ⟨_, rfl⟩
  have bgg := loudness_Gain.mul_le g g 65536 65536 g0 g1 g0 g1
  rw [← hgg] at bgg
  have e3 : IntKind.u64.wrap (g * g) = gg := by rw [← hgg]; exact wu (by omega) (by omega)
  have e4 : IntKind.u64.wrap num = num := wu (by omega) (by omega)
  have e5 : IntKind.u64.wrap target = target := wu (by omega) (by omega)
  have e6 : IntKind.u64.wrap (target * 4096) = target * 4096 := wu (by omega) (by omega)
  have e7 : IntKind.u64.wrap (target * 4096 * 4096) = target * 16777216 := by rw [wu (by omega) (by omega)]; omega
  have e8 : IntKind.u64.wrap den = den := wu (by omega) (by omega)
  obtain ⟨gt, hgt⟩ : ∃ gt : Int, gt = g * top := ⟨_, rfl⟩
  have bgt := loudness_Gain.mul_le g top 65536 65536 g0 g1 ht0 ht1
  rw [← hgt] at bgt
  have e9 : IntKind.i64.wrap (g * top) = gt := by rw [← hgt, IntKind.wrap_i64]; omega
  have e10 : IntKind.i64.wrap (peak * 4096) = peak * 4096 := by rw [IntKind.wrap_i64]; omega
  have AM := Aside0.mk (loudness_Gain.at_most gg num (target * 16777216) den (by omega) (by omega) (by omega) (by omega) (by omega) (by omega) (by omega) (by omega))
  have ov : loudness_Gain.over num den top target peak i = (!decide (gg * num ≤ target * 16777216 * den) || decide (peak * 4096 < gt)) := by
    unfold loudness_Gain.over
    rw [← hgi, ← hgg, ← hgt]
    congr 1
    rw [← decide_not]
    exact decide_eq_decide.2 (by omega)
  rw [ov]
  clear ov
  have AM2 : Aside0 (loudness_atMost.f gg num (target * 16777216) den = some (decide (gg * num ≤ target * 16777216 * den))) := AM
  clear AM
  generalize hA : decide (gg * num ≤ target * 16777216 * den) = A at AM2
  clear hA
  have hB : decide (peak * 4096 < gt) = decide (peak * 4096 < gt) := rfl
  clear hB hgg hgt bgg bgt hgi
  cases A
  · by_cases hB : peak * 4096 < gt
    all_goals
      go_enter Try.func38, Try.ntmps38
      go_wp2_with (go_at_call 39; refine (loudness_atMost.calls gg num (target * 16777216) den false _ AM2.out).mono ?_; rintro e w' ⟨rfl, ⟨nd, rfl⟩⟩)
      go_ret
      exact ⟨rfl, nd, rfl⟩
  · by_cases hB : peak * 4096 < gt
    · have hBb : decide (peak * 4096 < gt) = true := decide_eq_true hB
      rw [hBb]
      go_enter Try.func38, Try.ntmps38
      go_wp2_with (go_at_call 39; refine (loudness_atMost.calls gg num (target * 16777216) den true _ AM2.out).mono ?_; rintro e w' ⟨rfl, ⟨nd, rfl⟩⟩)
      go_ret
      exact ⟨rfl, nd, rfl⟩
    · have hBb : decide (peak * 4096 < gt) = false := decide_eq_false hB
      rw [hBb]
      go_enter Try.func38, Try.ntmps38
      go_wp2_with (go_at_call 39; refine (loudness_atMost.calls gg num (target * 16777216) den true _ AM2.out).mono ?_; rintro e w' ⟨rfl, ⟨nd, rfl⟩⟩)
      go_ret
      exact ⟨rfl, nd, rfl⟩
/-- 'over' goes up with the gain. -/
theorem loudness_Gain.over_mono (num den top target peak : Int) (hn : 0 ≤ num) (ht : 0 ≤ top) (a b : Nat) (h : a ≤ b) (ha : loudness_Gain.over num den top target peak a = true) : loudness_Gain.over num den top target peak b = true := by
  unfold loudness_Gain.over at ha ⊢
  rw [Bool.or_eq_true, decide_eq_true_eq, decide_eq_true_eq] at ha ⊢
  have x0 : (0 : Int) ≤ (a : Int) + 1 := by omega
  have x1 : (a : Int) + 1 ≤ (b : Int) + 1 := by omega
  have sq : ((a : Int) + 1) * ((a : Int) + 1) ≤ ((b : Int) + 1) * ((b : Int) + 1) := Int.mul_le_mul x1 x1 x0 (by omega)
  rcases ha with ha | ha
  · exact .inl (Int.lt_of_lt_of_le ha (Int.mul_le_mul_of_nonneg_right sq hn))
  · exact .inr (Int.lt_of_lt_of_le ha (Int.mul_le_mul_of_nonneg_right x1 ht))
theorem loudness_Gain.count (n h : Nat) (p : Nat → Bool) (h1 : ∀ t, t < h → p t = false) (h2 : ∀ t, h ≤ t → t < n → p t = true) (hn : h ≤ n) : (List.range n).countP (fun i => !p i) = h := by
  obtain ⟨m, rfl⟩ := Nat.le.dest hn
  rw [List.range_add, List.countP_append, List.countP_eq_length.2 (fun t ht => by rw [h1 t (List.mem_range.1 ht)]; rfl), List.length_range, List.countP_eq_zero.2 (fun t ht => by
    obtain ⟨u, hu, rfl⟩ := List.mem_map.1 ht
    rw [h2 (h + u) (by omega) (by have := List.mem_range.1 hu; omega)]
    decide)]
  rfl
set_option maxHeartbeats 4000000 in
set_option maxRecDepth 100000 in
/-- sort.Search over a closure that writes nothing: how many places are still false. -/
theorem loudness_Gain.search (b1 b2 b3 b4 : Nat) (n : Nat) (p : Nat → Bool) (w : World) (hsz : n < 4611686018427387904)
    (hf : ∀ (m : Nat) (i : Nat), i < n → Calls Try.prog 38 #[.int .i64 (i : Int), .pointer (some ⟨b1, 0, none⟩), .pointer (some ⟨b2, 0, none⟩), .pointer (some ⟨b3, 0, none⟩), .pointer (some ⟨b4, 0, none⟩)] (w.drewN m) fun e w' => e = .returned (.bool (p i)) ∧ ∃ q, w' = (w.drewN m).drewN q)
    (hmono : ∀ a b, a ≤ b → b < n → p a = true → p b = true) :
    Calls Try.prog 37 #[.int .i64 n, .func (.func 38) #[] #[.pointer (some ⟨b1, 0, none⟩), .pointer (some ⟨b2, 0, none⟩), .pointer (some ⟨b3, 0, none⟩), .pointer (some ⟨b4, 0, none⟩)]] w fun e w' => e = .returned (.int .i64 ((List.range n).countP (fun i => !p i) : Nat)) ∧ ∃ q, w' = w.drewN q := by
  have HF := Aside0.mk hf
  have M := Aside0.mk hmono
  clear hf hmono
  generalize hcnt : (List.range n).countP (fun i => !p i) = cnt
  have CN := Aside0.mk hcnt
  clear hcnt
  go_enter Try.func37, Try.ntmps37
  go_wp2
  go_loopg [5, 6] n (fun kx s5 s6 wr => ∃ (lo hi q : Nat), s5 = .int .i64 lo ∧ s6 = .int .i64 hi ∧ lo ≤ hi ∧ hi ≤ n ∧ hi - lo ≤ kx ∧ wr = w.drewN q ∧ Aside0 ((∀ t, t < lo → p t = false) ∧ (∀ t, hi ≤ t → t < n → p t = true)))
  case atStart => exact ⟨0, n, 0, rfl, rfl, Nat.zero_le _, Nat.le_refl _, by omega, rfl, ⟨⟨fun t ht => absurd ht (Nat.not_lt_zero _), fun t h1 h2 => by omega⟩⟩⟩
  case round =>
    obtain ⟨lo, hi, q, rfl, rfl, hlh, hin, hg, rfl, I⟩ := hrel
    by_cases hlt : lo < hi
    · have hc := HF.out q ((lo + hi) / 2) (by omega)
      rw [show (((lo + hi) / 2 : Nat) : Int) = ((lo : Int) + (hi : Int)) / 2 by omega] at hc
      cases hp : p ((lo + hi) / 2) <;> rw [hp] at hc
      · have HP := Aside0.mk hp
        clear hp
        go_wp2_with (go_at_call 38; refine hc.mono ?_; rintro e w' ⟨rfl, nq, rfl⟩)
        go_roundg (hi - ((lo + hi) / 2 + 1))
        case measure => omega
        case rel =>
          have I2 : Aside0 ((∀ t, t < (lo + hi) / 2 + 1 → p t = false) ∧ (∀ t, hi ≤ t → t < n → p t = true)) := ⟨fun t ht => (by
            cases h : p t with
            | false => rfl
            | true => have := M.out t ((lo + hi) / 2) (by omega) (by omega) h; rw [HP.out] at this; cases this), I.out.2⟩
          exact ⟨(lo + hi) / 2 + 1, hi, q + nq, by rw [show ((lo : Int) + (hi : Int)) / 2 + 1 = (((lo + hi) / 2 + 1 : Nat) : Int) by omega], rfl, by omega, hin, Nat.le_refl _, by first | rfl | rw [World.drewN_drewN], I2⟩
      · have HP := Aside0.mk hp
        clear hp
        go_wp2_with (go_at_call 38; refine hc.mono ?_; rintro e w' ⟨rfl, nq, rfl⟩)
        go_roundg ((lo + hi) / 2 - lo)
        case measure => omega
        case rel =>
          have I2 : Aside0 ((∀ t, t < lo → p t = false) ∧ (∀ t, (lo + hi) / 2 ≤ t → t < n → p t = true)) := ⟨I.out.1, fun t ht htn => M.out ((lo + hi) / 2) t ht htn HP.out⟩
          exact ⟨lo, (lo + hi) / 2, q + nq, rfl, by rw [show ((lo : Int) + (hi : Int)) / 2 = (((lo + hi) / 2 : Nat) : Int) by omega], by omega, by omega, Nat.le_refl _, by first | rfl | rw [World.drewN_drewN], I2⟩
    · obtain rfl : hi = lo := by omega
      have ecnt : cnt = hi := by
        rw [← CN.out]
        exact loudness_Gain.count n hi p I.out.1 I.out.2 hin
      subst ecnt
      go_wp2
      go_ret
      exact ⟨rfl, q, rfl⟩

theorem loudness_Gain.cell_alloc_ {W : World} {a : Addr} {v : Value} {o : Obj} (h : W.cell? a = some v) : (W.alloc o).cell? a = some v := by
  have hb := World.block_lt_of_cell? _ _ h
  exact ((below_alloc (Below.refl _ _) o).cell hb).trans h
theorem loudness_Gain.caught {w : World} {b1 b2 b3 b4 : Nat} {num den top target peak : Int} (h : loudness_Gain.Caught w b1 b2 b3 b4 num den top target peak) (m : Nat) : loudness_Gain.Caught (w.drewN m) b1 b2 b3 b4 num den top target peak := ⟨h.c0, h.c1, h.c2, h.c3, h.c4⟩
set_option maxHeartbeats 4000000 in
set_option maxRecDepth 100000 in
theorem loudness_Gain.calls (k : Nat) (A0 : Option Addr) (c0 : Nat) (l0 : List (List Int)) (a1 : Int) (a2 : Int) (r1 : Int) (r2 : Int) (w : World) (hr0 : Kd.C (Kd.slice 48 (Kd.int .i16)) w A0 l0.length l0) (hc0 : l0.length ≤ c0) (h : loudness_Gain.f k l0 a1 a2 = some (r1, r2)) :
    Calls Try.prog 25 #[.slice A0 l0.length c0, .int .i64 a1, .int .i64 a2] w fun e w' => e = .returned (.tuple #[.int .i64 r1, .int .i64 r2]) ∧ Below w.heap.size w w' := by
  unfold loudness_Gain.f at h
  obtain ⟨p, hp, h⟩ := Option.bind_eq_some_iff.mp h
  have HP := Aside0.mk hp
  have HR := Aside0.mk hr0
  have HC := Aside0.mk hc0
  clear hp hr0 hc0
  have HB2 : ∀ o1 o2, Below w.heap.size w ((w.alloc o1).alloc o2) := fun o1 o2 => below_alloc (below_alloc (Below.refl _ _) _) _
  cases p with
  | false =>
    rw [if_neg (by decide)] at h
    obtain ⟨rfl, rfl⟩ : 0 = r1 ∧ 1 = r2 := by simpa using h
    clear h
    have HR1 := Aside0.mk (Kd.C_below HR.out (HB2 (.cells #[.int .i64 a1] 2) (.cells #[.int .i64 a2] 3)))
    go_enter Try.func25, Try.ntmps25
    go_wp2_with (go_at_call 32; refine (loudness_proper.calls k _ _ l0 false _ HR1.out HC.out HP.out).mono ?_; rintro e w' ⟨rfl, ⟨nd, rfl⟩⟩)
    go_ret2
    exact ⟨rfl, pw_below_drewN (HB2 _ _) _⟩
  | true =>
    rw [if_pos rfl] at h
    have HR1 := Aside0.mk (Kd.C_below HR.out (HB2 (.cells #[.int .i64 a1] 2) (.cells #[.int .i64 a2] 3)))
    by_cases t1 : a1 < 0
    · rw [if_pos t1] at h
      obtain ⟨rfl, rfl⟩ : 0 = r1 ∧ 1 = r2 := by simpa using h
      clear h
      have t1b : decide (a1 < 0) = true := decide_eq_true t1
      go_enter Try.func25, Try.ntmps25
      go_wp2_with (go_at_call 32; refine (loudness_proper.calls k _ _ l0 true _ HR1.out HC.out HP.out).mono ?_; rintro e w' ⟨rfl, ⟨nd, rfl⟩⟩)
      go_ret2
      exact ⟨rfl, pw_below_drewN (HB2 _ _) _⟩
    · rw [if_neg t1] at h
      have t1b : decide (a1 < 0) = false := decide_eq_false t1
      by_cases t2 : 4294967296 < a1
      · rw [if_pos t2] at h
        obtain ⟨rfl, rfl⟩ : 0 = r1 ∧ 1 = r2 := by simpa using h
        clear h
        have t2b : decide (4294967296 < a1) = true := decide_eq_true t2
        go_enter Try.func25, Try.ntmps25
        go_wp2_with (go_at_call 32; refine (loudness_proper.calls k _ _ l0 true _ HR1.out HC.out HP.out).mono ?_; rintro e w' ⟨rfl, ⟨nd, rfl⟩⟩)
        go_ret2
        exact ⟨rfl, pw_below_drewN (HB2 _ _) _⟩
      · rw [if_neg t2] at h
        have t2b : decide (4294967296 < a1) = false := decide_eq_false t2
        by_cases t3 : a2 < 0
        · rw [if_pos t3] at h
          obtain ⟨rfl, rfl⟩ : 0 = r1 ∧ 1 = r2 := by simpa using h
          clear h
          have t3b : decide (a2 < 0) = true := decide_eq_true t3
          go_enter Try.func25, Try.ntmps25
          go_wp2_with (go_at_call 32; refine (loudness_proper.calls k _ _ l0 true _ HR1.out HC.out HP.out).mono ?_; rintro e w' ⟨rfl, ⟨nd, rfl⟩⟩)
          go_ret2
          exact ⟨rfl, pw_below_drewN (HB2 _ _) _⟩
        · rw [if_neg t3] at h
          have t3b : decide (a2 < 0) = false := decide_eq_false t3
          by_cases t4 : 32767 < a2
          · rw [if_pos t4] at h
            obtain ⟨rfl, rfl⟩ : 0 = r1 ∧ 1 = r2 := by simpa using h
            clear h
            have t4b : decide (32767 < a2) = true := decide_eq_true t4
            go_enter Try.func25, Try.ntmps25
            go_wp2_with (go_at_call 32; refine (loudness_proper.calls k _ _ l0 true _ HR1.out HC.out HP.out).mono ?_; rintro e w' ⟨rfl, ⟨nd, rfl⟩⟩)
            go_ret2
            exact ⟨rfl, pw_below_drewN (HB2 _ _) _⟩
          · rw [if_neg t4] at h
            have t4b : decide (32767 < a2) = false := decide_eq_false t4
            obtain ⟨m, hm, h⟩ := Option.bind_eq_some_iff.mp h
            obtain ⟨num, den, why⟩ := m
            obtain ⟨top, ht, h⟩ := Option.bind_eq_some_iff.mp h
            by_cases hb : 0 ≤ num ∧ num ≤ 4611686018427387904 ∧ 1 ≤ den ∧ den ≤ 4611686018427387904 ∧ 0 ≤ top ∧ top ≤ 65536
            · have h2 : (((((List.range 65536).countP (fun i => !loudness_Gain.over num den top a1 a2 i) : Nat) : Int), (0 : Int))) = (r1, r2) := by
                have h3 := h
                dsimp only at h3
                rw [if_pos hb] at h3
                exact Option.some.inj h3
              obtain ⟨h4, rfl⟩ : (((List.range 65536).countP (fun i => !loudness_Gain.over num den top a1 a2 i) : Nat) : Int) = r1 ∧ 0 = r2 := by simpa using h2
              have HN := Aside0.mk h4
              have HM := Aside0.mk hm
              have HT := Aside0.mk ht
              have HBD := Aside0.mk hb
              clear h h2 h4 hm ht hb t1 t2 t3 t4
              go_enter Try.func25, Try.ntmps25
              go_wp2_with (go_at_call 32; refine (loudness_proper.calls k _ _ l0 true _ HR1.out HC.out HP.out).mono ?_; rintro e w' ⟨rfl, ⟨nd, rfl⟩⟩)
              have HBa : Aside0 (Below w.heap.size w (((w.alloc (.cells #[.int .i64 a1] 2)).alloc (.cells #[.int .i64 a2] 3)).drewN nd)) := ⟨pw_below_drewN (HB2 _ _) _⟩
              have x1 : (((w.alloc (.cells #[.int .i64 a1] 2)).alloc (.cells #[.int .i64 a2] 3)).drewN nd).cell? ⟨w.heap.size, 0, none⟩ = some (.int .i64 a1) := by go_simp
              have x2 : (((w.alloc (.cells #[.int .i64 a1] 2)).alloc (.cells #[.int .i64 a2] 3)).drewN nd).cell? ⟨w.heap.size + 1, 0, none⟩ = some (.int .i64 a2) := by go_simp
              refine (loudness_Measure.calls k _ _ l0 num den why _ (Kd.C_below HR.out HBa.out) HC.out HM.out).mono ?_
              rintro e w2 ⟨rfl, hb2⟩
              replace x1 := (hb2.cell (World.block_lt_of_cell? _ _ x1)).trans x1
              replace x2 := (hb2.cell (World.block_lt_of_cell? _ _ x2)).trans x2
              have HBb : Aside0 (Below w.heap.size w (w2.alloc (.cells #[.int .i64 num, .int .i64 den] 37))) := ⟨below_alloc (below_step HBa.out hb2) _⟩
              have x3 : (w2.alloc (.cells #[.int .i64 num, .int .i64 den] 37)).cell? ⟨w2.heap.size, 0, none⟩ = some (.int .i64 num) := by go_simp
              have x4 : (w2.alloc (.cells #[.int .i64 num, .int .i64 den] 37)).cell? ⟨w2.heap.size, 1, none⟩ = some (.int .i64 den) := by go_simp
              clear hb2 HBa
              go_wp2_with (go_at_call 17; refine (loudness_Peak.calls k _ _ l0 top _ (Kd.C_below HR.out HBb.out) HC.out HT.out).mono ?_; rintro e w4 ⟨rfl, hb4⟩; (have y1 := (hb4.cell (World.block_lt_of_cell? _ _ (loudness_Gain.cell_alloc_ x1))).trans (loudness_Gain.cell_alloc_ x1)); (have y2 := (hb4.cell (World.block_lt_of_cell? _ _ (loudness_Gain.cell_alloc_ x2))).trans (loudness_Gain.cell_alloc_ x2)); (have y3 := (hb4.cell (World.block_lt_of_cell? _ _ x3)).trans x3); (have y4 := (hb4.cell (World.block_lt_of_cell? _ _ x4)).trans x4); (have HBc : Aside0 (Below w.heap.size w (w4.alloc (.cells #[.int .i64 top] 3))) := ⟨below_alloc (below_step HBb.out hb4) _⟩); clear hb4 HBb x1 x2 x3 x4)
              have CT : Aside0 (loudness_Gain.Caught (w4.alloc (.cells #[.int .i64 top] 3)) w2.heap.size w.heap.size w4.heap.size (w.heap.size + 1) num den top a1 a2) := ⟨⟨loudness_Gain.cell_alloc_ y3, loudness_Gain.cell_alloc_ y4, loudness_Gain.cell_alloc_ y1, by go_simp, loudness_Gain.cell_alloc_ y2⟩⟩
              clear y1 y2 y3 y4
              have B1 : Aside0 (0 ≤ a1 ∧ a1 ≤ 4294967296) := ⟨⟨Int.not_lt.1 (of_decide_eq_false t1b), Int.not_lt.1 (of_decide_eq_false t2b)⟩⟩
              have B2 : Aside0 (0 ≤ a2 ∧ a2 ≤ 32767) := ⟨⟨Int.not_lt.1 (of_decide_eq_false t3b), Int.not_lt.1 (of_decide_eq_false t4b)⟩⟩
              have SR := (loudness_Gain.search w2.heap.size w.heap.size w4.heap.size (w.heap.size + 1) 65536 (loudness_Gain.over num den top a1 a2) (w4.alloc (.cells #[.int .i64 top] 3)) (by decide) (fun m i hi => ((loudness_Gain.closure num den top a1 a2 _ _ _ _ _ i hi ⟨HBD.out.1, HBD.out.2.1⟩ ⟨HBD.out.2.2.1, HBD.out.2.2.2.1⟩ HBD.out.2.2.2.2 B1.out B2.out (loudness_Gain.caught CT.out m)).mono fun _ _ hq => hq)) (fun a b hab _ ha => loudness_Gain.over_mono num den top a1 a2 HBD.out.1 HBD.out.2.2.2.2.1 a b hab ha))
              rw [HN.out] at SR
              refine SR.mono ?_
              rintro e w6 ⟨rfl, q, rfl⟩
              go_wp2
              go_ret2
              exact ⟨rfl, pw_below_drewN HBc.out _⟩
            · dsimp only at h
              rw [if_neg hb] at h
              cases h


end Go.Proofs.Ytjcjbbcamkkeiaa.P
