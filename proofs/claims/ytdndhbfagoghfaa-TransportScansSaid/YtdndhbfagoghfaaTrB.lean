/- What the reference's Bits and Payload come to; its adaptation's bytes. No condition of its own. -/
import Derived.Test.YtdndhbfagoghfaaTrV
import Derived.Laws.BitsLemmas
import Derived.Test.YtdndhbfagoghfaaPx37
import Derived.Test.YtdndhbfagoghfaaPx50
namespace Go.Proofs.Ytdndhbfagoghfaa.P
open Go.RowKit Go.Proofs.YtdndhbfagoghfaaW.PrintWords Go.Proofs.YtdndhbfagoghfaaW.PrintLast Go.Proofs.YtdndhbfagoghfaaW.PrintMore
set_option linter.unusedVariables false
set_option linter.unusedSimpArgs false

/-- n bits of x, the high one first. -/
def bitl (x : Int) : Nat → List Int
  | 0 => []
  | n + 1 => (x / 2 ^ n % 2) :: bitl x n

theorem bit_f (x : Int) (n : Nat) (h0 : 0 ≤ x) (h1 : x < 4294967296) (hn : n < 32) : Go.bits .and .u32 (shr .u32 x (IntKind.u64.wrap (n : Int))) 1 % 256 = x / 2 ^ n % 2 := by
  have e : shr .u32 x (IntKind.u64.wrap (n : Int)) = x / 2 ^ n := by
    rw [wu (by omega) (by omega)]
    unfold shr
    rw [Int.toNat_natCast, Nat.min_eq_left (by show n ≤ 32; omega)]
  rw [e]
  have q0 : 0 ≤ x / 2 ^ n := Int.ediv_nonneg h0 (Int.le_of_lt (Int.pow_pos (by decide)))
  have q1 : x / 2 ^ n ≤ x := Int.ediv_le_self _ h0
  have := bits_mask .u32 32 (by decide) (fun n a b => w32_ a b) 1 (by decide) (x / 2 ^ n) q0 (by omega)
  rw [show ((2 : Int) ^ 1 - 1) = 1 by decide, show ((2 : Int) ^ 1) = 2 by decide] at this
  rw [this]
  omega

theorem bits_l0 (x : Int) (h0 : 0 ≤ x) (h1 : x < 4294967296) : ∀ (n : Nat) (acc : List Int), n ≤ 32 → acc.length + n ≤ 100 → Ev (fun k => cutroomref02_Bits.l0 k x acc ((n : Int) - 1)) (acc ++ bitl x n) := by
  intro n
  induction n with
  | zero =>
    intro acc _ _
    refine Ev.step (fun k => by rw [cutroomref02_Bits.l0]) ?_
    simp only [if_neg (show ¬ (((0 : Nat) : Int) - 1 ≥ 0) by decide), bitl, List.append_nil]
    exact Ev.now _
  | succ n ih =>
    intro acc hn ha
    refine Ev.step (fun k => by rw [cutroomref02_Bits.l0]) ?_
    rw [show (((n + 1 : Nat) : Int) - 1) = (n : Int) by omega]
    have hu : (0 : Int) ≤ IntKind.u64.wrap (n : Int) := by rw [wu (by omega) (by omega)]; omega
    simp only [if_pos (show (n : Int) ≥ 0 by omega), if_pos hu, if_pos (show acc.length < 140737488355328 by omega)]
    rw [bit_f x n h0 h1 (by omega), w64 (by omega) (by omega)]
    have := ih (acc ++ [x / 2 ^ n % 2]) (by omega) (by simp; omega)
    rw [List.append_assoc] at this
    exact this

theorem bits_ev (x : Int) (n : Nat) (h0 : 0 ≤ x) (h1 : x < 4294967296) (hn : n ≤ 32) : Ev (fun k => cutroomref02_Bits.f k x (n : Int)) (bitl x n) := by
  unfold cutroomref02_Bits.f
  rw [w64 (by omega) (by omega)]
  exact bits_l0 x h0 h1 n [] hn (by simp; omega)

/-- Byte j of the bits b, its first c bits counted. -/
def pv (b : List Int) (j : Nat) : Nat → Int
  | 0 => 0
  | c + 1 => pv b j c + b.getD (8 * j + c) 0 * 2 ^ (7 - c)

theorem or_bit : ∀ (c : Fin 8) (q : Fin 128), q.val < 2 ^ c.val → Go.bits .or .u8 ((q.val : Int) * 2 ^ (8 - c.val)) (shr .u8 128 (c.val : Int)) = (q.val : Int) * 2 ^ (8 - c.val) + 2 ^ (7 - c.val) := by
  decide +kernel

theorem pv_q (b : List Int) (hb : ∀ i, b.getD i 0 = 0 ∨ b.getD i 0 = 1) (j : Nat) : ∀ c, c ≤ 8 → ∃ q : Nat, q < 2 ^ c ∧ pv b j c = (q : Int) * 2 ^ (8 - c) := by
  intro c
  induction c with
  | zero => intro _; exact ⟨0, by decide, by simp [pv]⟩
  | succ c ih =>
    intro hc
    obtain ⟨q, h1, h2⟩ := ih (by omega)
    rcases hb (8 * j + c) with h | h
    · refine ⟨2 * q, by rw [Nat.pow_succ]; omega, ?_⟩
      rw [pv, h, h2, show 8 - c = (8 - (c + 1)) + 1 by omega, Int.pow_succ]
      push_cast; grind
    · refine ⟨2 * q + 1, by rw [Nat.pow_succ]; omega, ?_⟩
      rw [pv, h, h2, show 8 - c = (8 - (c + 1)) + 1 by omega, Int.pow_succ, show 7 - c = 8 - (c + 1) by omega]
      push_cast; grind

theorem pv_set (b : List Int) (hb : ∀ i, b.getD i 0 = 0 ∨ b.getD i 0 = 1) (j c : Nat) (hc : c < 8) (h1 : b.getD (8 * j + c) 0 = 1) :
    Go.bits .or .u8 (pv b j c) (shr .u8 128 (c : Int)) = pv b j (c + 1) := by
  obtain ⟨q, q1, q2⟩ := pv_q b hb j c (by omega)
  have q3 : q < 128 := by
    have := Nat.pow_le_pow_right (show 0 < 2 by decide) (show c ≤ 7 by omega)
    omega
  rw [q2, pv, h1, q2]
  have := or_bit ⟨c, hc⟩ ⟨q, q3⟩ q1
  simpa using this

def pst (b : List Int) (i : Nat) : List Int := (List.range 7).map (fun j => pv b j (min 8 (i - 8 * j)))

theorem pst_len (b : List Int) (i : Nat) : (pst b i).length = 7 := by simp [pst]
theorem pst_get (b : List Int) (i j : Nat) (hj : j < 7) : rd (pst b i) (j : Int) = pv b j (min 8 (i - 8 * j)) := by
  simp [rd, pst, List.getD, hj]
theorem pst_same (b : List Int) (i : Nat) (h0 : b.getD i 0 = 0) : pst b (i + 1) = pst b i := by
  refine List.map_congr_left fun j hj => ?_
  by_cases c : 8 * j ≤ i ∧ i - 8 * j < 8
  · rw [show min 8 (i + 1 - 8 * j) = (i - 8 * j) + 1 by omega, show min 8 (i - 8 * j) = i - 8 * j by omega, pv, show 8 * j + (i - 8 * j) = i by omega, h0]
    omega
  · rw [show min 8 (i + 1 - 8 * j) = min 8 (i - 8 * j) by omega]
theorem pst_set (b : List Int) (hb : ∀ i, b.getD i 0 = 0 ∨ b.getD i 0 = 1) (i : Nat) (hi : i < 56) (h1 : b.getD i 0 = 1) :
    (pst b i).set (i / 8) (Go.bits .or .u8 (rd (pst b i) ((i / 8 : Nat) : Int)) (shr .u8 128 ((i % 8 : Nat) : Int))) = pst b (i + 1) := by
  rw [pst_get b i (i / 8) (by omega), show min 8 (i - 8 * (i / 8)) = i % 8 by omega, pv_set b hb (i / 8) (i % 8) (by omega) (by rw [show 8 * (i / 8) + i % 8 = i by omega]; exact h1)]
  refine List.ext_getElem (by simp [pst]) fun j hj hj' => ?_
  rw [List.getElem_set]
  have hj7 : j < 7 := by rw [pst_len] at hj'; exact hj'
  simp only [pst, List.getElem_map, List.getElem_range]
  by_cases c : i / 8 = j
  · subst c
    rw [if_pos rfl, show min 8 (i + 1 - 8 * (i / 8)) = i % 8 + 1 by omega]
  · rw [if_neg c, show min 8 (i + 1 - 8 * j) = min 8 (i - 8 * j) by omega]

theorem pay_l0 (b : List Int) (hb : ∀ i, b.getD i 0 = 0 ∨ b.getD i 0 = 1) (hl : b.length = 48) : ∀ (m i : Nat), i + m = 48 →
    Ev (fun k => cutroomref02_Payload.l0 k b (pst b i) (i : Int)) ((pst b 48).set 6 128) := by
  intro m
  induction m with
  | zero =>
    intro i hi
    obtain rfl : i = 48 := by omega
    refine Ev.step (fun k => by rw [cutroomref02_Payload.l0]) ?_
    have e1 : wrap64 (Int.tdiv 48 8) = 6 := by decide +kernel
    have e2 : IntKind.u64.wrap (Int.tmod 48 8) = 0 := by decide +kernel
    have e3 : wrap64 (48 + 1) = 49 := by decide +kernel
    have e4 : rd (pst b 48) 6 = 0 := by
      have := pst_get b 48 6 (by decide)
      simpa [pv] using this
    have e5 : Go.bits .or .u8 0 (shr .u8 128 0) = 128 := by decide +kernel
    simp only [hl, Int.cast_ofNat_Int, if_pos (show (48 : Int) ≤ 48 by decide), if_true, e1, e2, e3, e4, e5, pst_len, if_pos (show (0 : Int) ≤ 6 by decide), if_pos (show (6 : Int) < 7 by decide), if_pos (show (0 : Int) ≤ 0 by decide)]
    refine Ev.step (fun k => by rw [cutroomref02_Payload.l0]) ?_
    simp only [hl, Int.cast_ofNat_Int, if_neg (show ¬ (49 : Int) ≤ 48 by decide)]
    exact Ev.now _
  | succ m ih =>
    intro i hi
    refine Ev.step (fun k => by rw [cutroomref02_Payload.l0]) ?_
    have e1 : wrap64 (Int.tdiv (i : Int) 8) = ((i / 8 : Nat) : Int) := by
      rw [Int.tdiv_eq_ediv_of_nonneg (by omega), w64 (by omega) (by omega)]; omega
    have e2 : IntKind.u64.wrap (Int.tmod (i : Int) 8) = ((i % 8 : Nat) : Int) := by
      rw [Int.tmod_eq_emod_of_nonneg (by omega), wu (by omega) (by omega)]; omega
    have e3 : wrap64 ((i : Int) + 1) = ((i + 1 : Nat) : Int) := by rw [w64 (by omega) (by omega)]; rfl
    have er : rd b (i : Int) = b.getD i 0 := by simp [rd]
    have := ih (i + 1) (by omega)
    simp only [hl, Int.cast_ofNat_Int, if_pos (show (i : Int) ≤ 48 by omega), if_neg (show ¬ (i : Int) = 48 by omega), if_pos (show (0 : Int) ≤ (i : Int) by omega), if_pos (show (i : Int) < 48 by omega), e1, e2, e3, er, pst_len, if_pos (show (0 : Int) ≤ ((i / 8 : Nat) : Int) by omega), if_pos (show ((i / 8 : Nat) : Int) < 7 by omega), if_pos (show (0 : Int) ≤ ((i % 8 : Nat) : Int) by omega)]
    rcases hb i with h | h
    · rw [pst_same b i h] at this
      simp only [h, if_neg (show ¬ (0 : Int) = 1 by decide)]
      exact this
    · rw [← pst_set b hb i (by omega) h] at this
      simp only [h, if_true, Int.toNat_natCast]
      exact this

theorem pay_ev (b : List Int) (hb : ∀ i, b.getD i 0 = 0 ∨ b.getD i 0 = 1) (hl : b.length = 48) : Ev (fun k => cutroomref02_Payload.f k b) [pv b 0 8, pv b 1 8, pv b 2 8, pv b 3 8, pv b 4 8, pv b 5 8, 128] := by
  unfold cutroomref02_Payload.f
  have e1 : wrap64 (wrap64 ((b.length : Int) / 8) + 1) = 7 := by rw [hl]; decide +kernel
  simp only [e1, if_pos (show (0 : Int) ≤ 7 by decide), if_pos (show (7 : Int).toNat ≤ 281474976710656 by decide)]
  have := pay_l0 b hb hl 48 0 rfl
  have e2 : pst b 0 = List.replicate 7 0 := by simp [pst, pv, List.range, List.range.loop, List.replicate]
  rw [e2] at this
  have e3 : (pst b 48).set 6 128 = [pv b 0 8, pv b 1 8, pv b 2 8, pv b 3 8, pv b 4 8, pv b 5 8, 128] := by simp [pst, List.range, List.range.loop]
  rw [e3] at this
  exact this

end Go.Proofs.Ytdndhbfagoghfaa.P
