/- What is written reads back: transport's read and Take over the bytes of a packet. No condition of its own. -/
import Derived.Test.YtdndhbfagoghfaaTrP
import Derived.Test.YtdndhbfagoghfaaPx38
import Derived.Test.YtdndhbfagoghfaaPx17
import Derived.Test.YtdndhbfagoghfaaPx18
import Derived.Test.YtdndhbfagoghfaaPx15
namespace Go.Proofs.Ytdndhbfagoghfaa.P
open Go.RowKit Go.Proofs.YtdndhbfagoghfaaW.PrintWords Go.Proofs.YtdndhbfagoghfaaW.PrintLast Go.Proofs.YtdndhbfagoghfaaW.PrintMore
set_option linter.unusedVariables false
set_option linter.unusedSimpArgs false

theorem same_bytes (l : List Int) : cutroomref02_SameBytes.f l l = some true := by
  unfold cutroomref02_SameBytes.f; rw [beq_self_eq_true]
theorem equal_bytes (l : List Int) : bytes_Equal.f l l = some true := by
  unfold bytes_Equal.f; rw [beq_self_eq_true]

theorem and31 {x : Int} (h0 : 0 ≤ x) (h1 : x < 256) : Go.bits .and .u8 x 31 = x % 32 := bits_mask .u8 8 (by decide) (fun n a b => w8_ a b) 5 (by decide) x h0 h1
theorem and15 {x : Int} (h0 : 0 ≤ x) (h1 : x < 256) : Go.bits .and .u8 x 15 = x % 16 := bits_mask .u8 8 (by decide) (fun n a b => w8_ a b) 4 (by decide) x h0 h1
theorem and1 {x : Int} (h0 : 0 ≤ x) (h1 : x < 256) : Go.bits .and .u8 x 1 = x % 2 := bits_mask .u8 8 (by decide) (fun n a b => w8_ a b) 1 (by decide) x h0 h1
theorem or_i64 (i : Nat) (x y : Int) (h0 : 0 ≤ x) (hx : x % 2 ^ i = 0) (h1 : x < 9223372036854775808) (y0 : 0 ≤ y) (y1 : y < 2 ^ i) (y2 : y < 9223372036854775808) : Go.bits .or .i64 x y = x + y :=
  bits_join .i64 63 (by decide) (fun n a b => wi64_ a b) i x y h0 hx h1 y0 y1 y2
theorem flag64 : ∀ (s : Bool) (h : Fin 32), ((Go.bits .and .u8 ((if s = true then 64 else 0) + (h.val : Int)) 64) != 0) = s := by decide +kernel
theorem flag64' (s : Bool) (h : Int) (h0 : 0 ≤ h) (h1 : h < 32) : ((Go.bits .and .u8 ((if s = true then 64 else 0) + h) 64) != 0) = s := by
  have := flag64 s ⟨h.toNat, by omega⟩
  simpa [Int.toNat_of_nonneg h0] using this

theorem pid_eq (a0 s : Int) (h1 : 0 ≤ a0) (h2 : a0 ≤ 8191) (hs : s = 64 ∨ s = 0) : Go.bits .or .i64 (wrap64 ((wrap64 (Go.bits .and .u8 (s + a0 / 256) 31)) * 256)) (wrap64 (a0 % 256)) = a0 := by
  rw [and31 (by omega) (by omega), show (s + a0 / 256) % 32 = a0 / 256 by omega, w64 (x := a0 / 256) (by omega) (by omega), w64 (x := a0 / 256 * 256) (by omega) (by omega), w64 (x := a0 % 256) (by omega) (by omega),
    or_i64 8 _ _ (by omega) (by omega) (by omega) (by omega) (by omega) (by omega)]
  omega

theorem pcr_eq (p : Int) (h0 : 0 ≤ p) (h1 : p < 2576980377600) :
    wrap64 ((wrap64 ((wrap64 ((Go.bits .or .i64 (Go.bits .or .i64 (Go.bits .or .i64 (Go.bits .or .i64 (wrap64 ((wrap64 (p / 300 / 33554432 % 256)) * 33554432)) (wrap64 ((wrap64 (p / 300 / 131072 % 256)) * 131072))) (wrap64 ((wrap64 (p / 300 / 512 % 256)) * 512))) (wrap64 ((wrap64 (p / 300 / 2 % 256)) * 2))) (wrap64 ((p / 300 % 2 * 128 + 126 + p % 300 / 256) / 128))) * 300)) + (wrap64 ((wrap64 (Go.bits .and .u8 (p / 300 % 2 * 128 + 126 + p % 300 / 256) 1)) * 256)))) + (wrap64 (p % 300 % 256))) = p := by
  obtain ⟨B, hB⟩ : ∃ B, B = p / 300 := ⟨_, rfl⟩
  obtain ⟨e, he⟩ : ∃ e, e = p % 300 := ⟨_, rfl⟩
  have hp : p = B * 300 + e := by omega
  rw [← hB, ← he]
  have b0 : 0 ≤ B := by omega
  have b1 : B < 8589934592 := by omega
  have e0 : 0 ≤ e := by omega
  have e1 : e < 300 := by omega
  rw [and1 (by omega) (by omega), show (B % 2 * 128 + 126 + e / 256) / 128 = B % 2 by omega, show (B % 2 * 128 + 126 + e / 256) % 2 = e / 256 by omega]
  rw [w64 (x := B / 33554432 % 256) (by omega) (by omega), w64 (x := B / 131072 % 256) (by omega) (by omega), w64 (x := B / 512 % 256) (by omega) (by omega), w64 (x := B / 2 % 256) (by omega) (by omega), w64 (x := B % 2) (by omega) (by omega), w64 (x := e / 256) (by omega) (by omega), w64 (x := e % 256) (by omega) (by omega)]
  rw [w64 (x := B / 33554432 % 256 * 33554432) (by omega) (by omega), w64 (x := B / 131072 % 256 * 131072) (by omega) (by omega), w64 (x := B / 512 % 256 * 512) (by omega) (by omega), w64 (x := B / 2 % 256 * 2) (by omega) (by omega), w64 (x := e / 256 * 256) (by omega) (by omega)]
  rw [or_i64 25 (B / 33554432 % 256 * 33554432) (B / 131072 % 256 * 131072) (by omega) (by omega) (by omega) (by omega) (by omega) (by omega)]
  rw [or_i64 17 _ (B / 512 % 256 * 512) (by omega) (by omega) (by omega) (by omega) (by omega) (by omega)]
  rw [or_i64 9 _ (B / 2 % 256 * 2) (by omega) (by omega) (by omega) (by omega) (by omega) (by omega)]
  rw [or_i64 1 _ (B % 2) (by omega) (by omega) (by omega) (by omega) (by omega) (by omega)]
  rw [show B / 33554432 % 256 * 33554432 + B / 131072 % 256 * 131072 + B / 512 % 256 * 512 + B / 2 % 256 * 2 + B % 2 = B by omega]
  rw [w64 (x := B * 300) (by omega) (by omega), w64 (x := B * 300 + e / 256 * 256) (by omega) (by omega), w64 (by omega) (by omega)]
  omega

end Go.Proofs.Ytdndhbfagoghfaa.P
