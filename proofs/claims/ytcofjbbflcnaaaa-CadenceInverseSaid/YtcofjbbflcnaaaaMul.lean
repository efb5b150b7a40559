/- What bits.Mul64 comes to: the two words of a product. No condition of its own. -/
import Derived.Test.YtcofjbbflcnaaaaPx76
import Derived.Laws.BitsLemmas
namespace Go.Proofs.Ytcofjbbflcnaaaa.P
open Go.RowKit Go.Proofs.YtcofjbbflcnaaaaW.PrintWords Go.Proofs.YtcofjbbflcnaaaaW.PrintLast Go.Proofs.YtcofjbbflcnaaaaW.PrintMore
set_option linter.unusedVariables false

theorem w64 {x : Int} (h0 : -9223372036854775808 ≤ x) (h1 : x < 9223372036854775808) : wrap64 x = x := by unfold wrap64; omega
theorem wu64 (x : Int) : IntKind.u64.wrap x = x % 18446744073709551616 := by simp [IntKind.wrap, IntKind.bits, IntKind.signed]
theorem wu {x : Int} (h0 : 0 ≤ x) (h1 : x < 18446744073709551616) : IntKind.u64.wrap x = x := by rw [wu64]; omega
theorem and32 {x : Int} (h0 : 0 ≤ x) (h1 : x < 18446744073709551616) : Go.bits .and .u64 x 4294967295 = x % 4294967296 :=
  bits_mask .u64 64 (by decide) (fun n a b => wu a b) 32 (by decide) x h0 h1

/-! ### Mul64 -/
theorem mul64_hi (a b a0 a1 b0 b1 : Int) (ha : a = a1 * 4294967296 + a0) (hb : b = b1 * 4294967296 + b0) (ha0 : 0 ≤ a0) (ha0' : a0 < 4294967296) (hb0 : 0 ≤ b0) (hb0' : b0 < 4294967296)
    (t : Int) (ht : t = a1 * b0 + (a0 * b0) / 4294967296) :
    a * b / 18446744073709551616 = a1 * b1 + t / 4294967296 + (t % 4294967296 + a0 * b1) / 4294967296 := by
  have e : a * b = a1 * b1 * 18446744073709551616 + (a1 * b0 + a0 * b1) * 4294967296 + a0 * b0 := by subst ha; subst hb; grind
  rw [e, ht]
  generalize a1 * b1 = p
  generalize a1 * b0 = q
  generalize a0 * b1 = r
  generalize a0 * b0 = s
  omega

theorem mul_lt {a b A B : Int} (ha : 0 ≤ a) (hb : 0 ≤ b) (hA : a ≤ A) (hB : b ≤ B) : a * b ≤ A * B :=
  Int.le_trans (Int.mul_le_mul_of_nonneg_right hA hb) (Int.mul_le_mul_of_nonneg_left hB (Int.le_trans ha hA))

theorem mul64 (a b : Int) (ha : 0 ≤ a) (ha' : a < 18446744073709551616) (hb : 0 ≤ b) (hb' : b < 18446744073709551616) :
    bits_Mul64.f a b = some (a * b / 18446744073709551616, a * b % 18446744073709551616) := by
  unfold bits_Mul64.f
  rw [and32 ha ha', and32 hb hb']
  obtain ⟨a1, e1⟩ : ∃ a1, a1 = a / 4294967296 := ⟨_, rfl⟩
  obtain ⟨a0, e0⟩ : ∃ a0, a0 = a % 4294967296 := ⟨_, rfl⟩
  obtain ⟨b1, f1⟩ : ∃ b1, b1 = b / 4294967296 := ⟨_, rfl⟩
  obtain ⟨b0, f0⟩ : ∃ b0, b0 = b % 4294967296 := ⟨_, rfl⟩
  rw [← e1, ← e0, ← f1, ← f0]
  have A0 : 0 ≤ a0 := by omega
  have A0' : a0 ≤ 4294967295 := by omega
  have A1 : 0 ≤ a1 := by omega
  have A1' : a1 ≤ 4294967295 := by omega
  have B0 : 0 ≤ b0 := by omega
  have B0' : b0 ≤ 4294967295 := by omega
  have B1 : 0 ≤ b1 := by omega
  have B1' : b1 ≤ 4294967295 := by omega
  have p00 := Int.mul_nonneg A0 B0
  have p01 := Int.mul_nonneg A0 B1
  have p10 := Int.mul_nonneg A1 B0
  have p11 := Int.mul_nonneg A1 B1
  have q00 := mul_lt A0 B0 A0' B0'
  have q01 := mul_lt A0 B1 A0' B1'
  have q10 := mul_lt A1 B0 A1' B0'
  have q11 := mul_lt A1 B1 A1' B1'
  have hi := mul64_hi a b a0 a1 b0 b1 (by omega) (by omega) A0 (by omega) B0 (by omega) _ rfl
  rw [hi]
  generalize a1 * b1 = p at *
  generalize a1 * b0 = q at *
  generalize a0 * b1 = r at *
  generalize a0 * b0 = s at *
  rw [wu (x := s) (by omega) (by omega), wu (x := q) (by omega) (by omega), wu (x := q + s / 4294967296) (by omega) (by omega), wu (x := p) (by omega) (by omega), wu (x := r) (by omega) (by omega),
    and32 (x := q + s / 4294967296) (by omega) (by omega), wu (x := (q + s / 4294967296) % 4294967296 + r) (by omega) (by omega), wu (x := p + (q + s / 4294967296) / 4294967296) (by omega) (by omega), wu64 (a * b)]
  have hb2 : p + (q + s / 4294967296) / 4294967296 + ((q + s / 4294967296) % 4294967296 + r) / 4294967296 < 18446744073709551616 := by
    rw [← hi]
    have := mul_lt ha hb (A := 18446744073709551615) (B := 18446744073709551615) (by omega) (by omega)
    generalize a * b = z at *
    omega
  rw [wu (by omega) hb2]

end Go.Proofs.Ytcofjbbflcnaaaa.P
