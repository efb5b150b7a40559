/- What the reference's Put comes to: the same bytes. No condition of its own. -/
import Derived.Test.YtdndhbfagoghfaaTrP
import Derived.Test.YtdndhbfagoghfaaTrB
import Derived.Test.YtdndhbfagoghfaaPx14
namespace Go.Proofs.Ytdndhbfagoghfaa.P
open Go.RowKit Go.Proofs.YtdndhbfagoghfaaW.PrintWords Go.Proofs.YtdndhbfagoghfaaW.PrintLast Go.Proofs.YtdndhbfagoghfaaW.PrintMore
set_option linter.unusedVariables false
set_option linter.unusedSimpArgs false

theorem bitl_len (x : Int) : ∀ n, (bitl x n).length = n
  | 0 => rfl
  | n + 1 => by rw [bitl, List.length_cons, bitl_len x n]
theorem bitl_mem (x : Int) : ∀ n, ∀ y ∈ bitl x n, y = 0 ∨ y = 1
  | 0 => fun y h => by cases h
  | n + 1 => fun y h => by
    rcases List.mem_cons.1 h with rfl | h
    · omega
    · exact bitl_mem x n y h
theorem getD_bits {b : List Int} (h : ∀ y ∈ b, y = 0 ∨ y = 1) (i : Nat) : b.getD i 0 = 0 ∨ b.getD i 0 = 1 := by
  by_cases c : i < b.length
  · have : b.getD i 0 = b[i] := by simp [List.getD, c]
    rw [this]
    exact h _ (List.getElem_mem c)
  · left
    simp [List.getD, List.getElem?_eq_none (by omega : b.length ≤ i)]

def pb (B e : Int) : List Int := ((bitl (B / 4294967296) 1 ++ bitl (B % 4294967296) 32) ++ bitl 63 6) ++ bitl e 9

theorem pb0 (B e : Int) (h0 : 0 ≤ B) (h1 : B < 8589934592) : pv (pb B e) 0 8 = B / 33554432 % 256 := by
  simp [pb, pv, bitl]; omega
theorem pb1 (B e : Int) (h0 : 0 ≤ B) (h1 : B < 8589934592) : pv (pb B e) 1 8 = B / 131072 % 256 := by
  simp [pb, pv, bitl]; omega
theorem pb2 (B e : Int) (h0 : 0 ≤ B) (h1 : B < 8589934592) : pv (pb B e) 2 8 = B / 512 % 256 := by
  simp [pb, pv, bitl]; omega
theorem pb3 (B e : Int) (h0 : 0 ≤ B) (h1 : B < 8589934592) : pv (pb B e) 3 8 = B / 2 % 256 := by
  simp [pb, pv, bitl]; omega
theorem pb4 (B e : Int) (h0 : 0 ≤ B) (h1 : B < 8589934592) (e0 : 0 ≤ e) (e1 : e < 300) : pv (pb B e) 4 8 = B % 2 * 128 + 126 + e / 256 := by
  simp [pb, pv, bitl]; omega
theorem pb5 (B e : Int) (h0 : 0 ≤ B) (h1 : B < 8589934592) (e0 : 0 ≤ e) (e1 : e < 300) : pv (pb B e) 5 8 = e % 256 := by
  simp [pb, pv, bitl]; omega

theorem pb_len (B e : Int) : (pb B e).length = 48 := by
  unfold pb
  rw [List.length_append, List.length_append, List.length_append, bitl_len, bitl_len, bitl_len, bitl_len]
theorem pb_mem (B e : Int) : ∀ y ∈ pb B e, y = 0 ∨ y = 1 := by
  intro y hy
  unfold pb at hy
  rcases List.mem_append.1 hy with hy | hy
  · rcases List.mem_append.1 hy with hy | hy
    · rcases List.mem_append.1 hy with hy | hy
      · exact bitl_mem _ _ y hy
      · exact bitl_mem _ _ y hy
    · exact bitl_mem _ _ y hy
  · exact bitl_mem _ _ y hy
theorem seven (a b c d e f g : Int) : (if (6 : Int) ≤ (([a, b, c, d, e, f, g] : List Int).length : Int) then (if ([16] : List Int).length + (List.take 6 [a, b, c, d, e, f, g]).length < 140737488355328 then some ([16] ++ List.take 6 [a, b, c, d, e, f, g]) else none) else none) = some [16, a, b, c, d, e, f] := by simp

end Go.Proofs.Ytdndhbfagoghfaa.P
